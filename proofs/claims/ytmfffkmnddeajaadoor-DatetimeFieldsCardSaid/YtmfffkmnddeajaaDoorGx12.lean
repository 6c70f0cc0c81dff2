/- Written by a program of this session for this seat: contracts of the functions that its laws reach, or the row of a law over its plain part. -/
import Derived.Test.YtmfffkmnddeajaaDoorGx0
import Derived.Test.YtmfffkmnddeajaaDoorGx1
import Derived.Test.YtmfffkmnddeajaaDoorGx2
import Derived.Test.YtmfffkmnddeajaaDoorGx5
namespace Go.Proofs.YtmfffkmnddeajaaDoor.G
open Go.RowKit Go.Proofs.YtmfffkmnddeajaaDoorW.PrintWords Go.Proofs.YtmfffkmnddeajaaDoorW.PrintLast Go.Proofs.YtmfffkmnddeajaaDoorW.PrintMore
attribute [local go_sem] max2_int min2_int max_two min_two max_three min_three max_four min_four   -- for this text's walks alone
set_option linter.unusedVariables false
set_option linter.unusedSimpArgs false

attribute [local go_sem high] eqA23
/-! ### zoneinfolaw05_DatetimeFields: function 7 -/
mutual
def zoneinfolaw05_DatetimeFields.j0 : Nat → Int → Bool → Option (Bool)
  | 0, _, _ => none
  | k + 1, x0, x14 => if x14 = true then ((zoneinfolaw05_awake.f k).bind fun t263 => (some t263)) else ((datetime_Of.f x0).bind fun bt264 => ((datetime_Of.f (wrap64 (x0 + 1))).bind fun bt272 => ((datetime_Split.f x0).bind fun bt280 => (if (wrap64 ((wrap64 ((wrap64 (bt264.2.2.2.1 * 3600)) + (wrap64 (bt264.2.2.2.2.1 * 60)))) + bt264.2.2.2.2.2.1)) = bt280.2 then (if bt264.2.2.2.1 < 0 then (zoneinfolaw05_DatetimeFields.j1 k true bt264.1 bt264.2.1 bt264.2.2.1 bt264.2.2.2.1 bt264.2.2.2.2.1 bt264.2.2.2.2.2.1 bt264.2.2.2.2.2.2 bt272.1 bt272.2.1 bt272.2.2.1 bt272.2.2.2.1 bt272.2.2.2.2.1 bt272.2.2.2.2.2.1 bt272.2.2.2.2.2.2) else (if bt264.2.2.2.1 > 23 then (zoneinfolaw05_DatetimeFields.j1 k true bt264.1 bt264.2.1 bt264.2.2.1 bt264.2.2.2.1 bt264.2.2.2.2.1 bt264.2.2.2.2.2.1 bt264.2.2.2.2.2.2 bt272.1 bt272.2.1 bt272.2.2.1 bt272.2.2.2.1 bt272.2.2.2.2.1 bt272.2.2.2.2.2.1 bt272.2.2.2.2.2.2) else (if bt264.2.2.2.2.1 < 0 then (zoneinfolaw05_DatetimeFields.j1 k true bt264.1 bt264.2.1 bt264.2.2.1 bt264.2.2.2.1 bt264.2.2.2.2.1 bt264.2.2.2.2.2.1 bt264.2.2.2.2.2.2 bt272.1 bt272.2.1 bt272.2.2.1 bt272.2.2.2.1 bt272.2.2.2.2.1 bt272.2.2.2.2.2.1 bt272.2.2.2.2.2.2) else (if bt264.2.2.2.2.1 > 59 then (zoneinfolaw05_DatetimeFields.j1 k true bt264.1 bt264.2.1 bt264.2.2.1 bt264.2.2.2.1 bt264.2.2.2.2.1 bt264.2.2.2.2.2.1 bt264.2.2.2.2.2.2 bt272.1 bt272.2.1 bt272.2.2.1 bt272.2.2.2.1 bt272.2.2.2.2.1 bt272.2.2.2.2.2.1 bt272.2.2.2.2.2.2) else (if bt264.2.2.2.2.2.1 < 0 then (zoneinfolaw05_DatetimeFields.j1 k true bt264.1 bt264.2.1 bt264.2.2.1 bt264.2.2.2.1 bt264.2.2.2.2.1 bt264.2.2.2.2.2.1 bt264.2.2.2.2.2.2 bt272.1 bt272.2.1 bt272.2.2.1 bt272.2.2.2.1 bt272.2.2.2.2.1 bt272.2.2.2.2.2.1 bt272.2.2.2.2.2.2) else (zoneinfolaw05_DatetimeFields.j1 k (decide (bt264.2.2.2.2.2.1 > 59)) bt264.1 bt264.2.1 bt264.2.2.1 bt264.2.2.2.1 bt264.2.2.2.2.1 bt264.2.2.2.2.2.1 bt264.2.2.2.2.2.2 bt272.1 bt272.2.1 bt272.2.2.1 bt272.2.2.2.1 bt272.2.2.2.2.1 bt272.2.2.2.2.2.1 bt272.2.2.2.2.2.2)))))) else (zoneinfolaw05_DatetimeFields.j1 k true bt264.1 bt264.2.1 bt264.2.2.1 bt264.2.2.2.1 bt264.2.2.2.2.1 bt264.2.2.2.2.2.1 bt264.2.2.2.2.2.2 bt272.1 bt272.2.1 bt272.2.2.1 bt272.2.2.2.1 bt272.2.2.2.2.1 bt272.2.2.2.2.2.1 bt272.2.2.2.2.2.2)))))
def zoneinfolaw05_DatetimeFields.j1 : Nat → Bool → Int → Int → Int → Int → Int → Int → Int → Int → Int → Int → Int → Int → Int → Int → Option (Bool)
  | 0, _, _, _, _, _, _, _, _, _, _, _, _, _, _, _ => none
  | k + 1, x67, x272000, x272001, x272002, x272003, x272004, x272005, x272006, x280000, x280001, x280002, x280003, x280004, x280005, x280006 => if x67 = true then (none) else (if x272005 < 59 then (zoneinfolaw05_DatetimeFields.j2 k x280000 x280001 x280002 x280003 x280004 x280005 x280006 x272000 x272001 x272002 x272003 x272004 (wrap64 (x272005 + 1)) x272006) else (if x272004 < 59 then (zoneinfolaw05_DatetimeFields.j3 k x280000 x280001 x280002 x280003 x280004 x280005 x280006 x272000 x272001 x272002 x272003 (wrap64 (x272004 + 1)) 0 x272006) else (if x280005 = 0 then (if x280004 = 0 then (if x280003 = (wrap64 (x272003 + 1)) then (some true) else (if x272003 = 23 then (if x280003 = 0 then (some (x280006 == (Int.tmod (wrap64 (x272006 + 1)) 7))) else (none)) else (none))) else (none)) else (none))))
def zoneinfolaw05_DatetimeFields.j2 : Nat → Int → Int → Int → Int → Int → Int → Int → Int → Int → Int → Int → Int → Int → Int → Option (Bool)
  | 0, _, _, _, _, _, _, _, _, _, _, _, _, _, _ => none
  | k + 1, x280000, x280001, x280002, x280003, x280004, x280005, x280006, x283000, x283001, x283002, x283003, x283004, x283005, x283006 => some (x280000 == x283000 && (x280001 == x283001 && (x280002 == x283002 && (x280003 == x283003 && (x280004 == x283004 && (x280005 == x283005 && (x280006 == x283006)))))))
def zoneinfolaw05_DatetimeFields.j3 : Nat → Int → Int → Int → Int → Int → Int → Int → Int → Int → Int → Int → Int → Int → Int → Option (Bool)
  | 0, _, _, _, _, _, _, _, _, _, _, _, _, _, _ => none
  | k + 1, x280000, x280001, x280002, x280003, x280004, x280005, x280006, x284000, x284001, x284002, x284003, x284004, x284005, x284006 => some (x280000 == x284000 && (x280001 == x284001 && (x280002 == x284002 && (x280003 == x284003 && (x280004 == x284004 && (x280005 == x284005 && (x280006 == x284006)))))))
end
def zoneinfolaw05_DatetimeFields.f (k : Nat) (a0 : Int) : Option (Bool) := (zoneinfolaw05_awake.f k).bind fun t262 => (if t262 = true then (zoneinfolaw05_DatetimeFields.j0 k a0 (a0 == 9223372036854775807)) else (zoneinfolaw05_DatetimeFields.j0 k a0 true))
theorem zoneinfolaw05_DatetimeFields.mono_l : ∀ k, (∀ y0 y1, LeO (zoneinfolaw05_DatetimeFields.j0 k y0 y1) (zoneinfolaw05_DatetimeFields.j0 (k + 1) y0 y1)) ∧ (∀ y0 y1 y2 y3 y4 y5 y6 y7 y8 y9 y10 y11 y12 y13 y14, LeO (zoneinfolaw05_DatetimeFields.j1 k y0 y1 y2 y3 y4 y5 y6 y7 y8 y9 y10 y11 y12 y13 y14) (zoneinfolaw05_DatetimeFields.j1 (k + 1) y0 y1 y2 y3 y4 y5 y6 y7 y8 y9 y10 y11 y12 y13 y14)) ∧ (∀ y0 y1 y2 y3 y4 y5 y6 y7 y8 y9 y10 y11 y12 y13, LeO (zoneinfolaw05_DatetimeFields.j2 k y0 y1 y2 y3 y4 y5 y6 y7 y8 y9 y10 y11 y12 y13) (zoneinfolaw05_DatetimeFields.j2 (k + 1) y0 y1 y2 y3 y4 y5 y6 y7 y8 y9 y10 y11 y12 y13)) ∧ (∀ y0 y1 y2 y3 y4 y5 y6 y7 y8 y9 y10 y11 y12 y13, LeO (zoneinfolaw05_DatetimeFields.j3 k y0 y1 y2 y3 y4 y5 y6 y7 y8 y9 y10 y11 y12 y13) (zoneinfolaw05_DatetimeFields.j3 (k + 1) y0 y1 y2 y3 y4 y5 y6 y7 y8 y9 y10 y11 y12 y13))
  | 0 => ⟨fun _ _ r h => by simp [zoneinfolaw05_DatetimeFields.j0] at h, fun _ _ _ _ _ _ _ _ _ _ _ _ _ _ _ r h => by simp [zoneinfolaw05_DatetimeFields.j1] at h, fun _ _ _ _ _ _ _ _ _ _ _ _ _ _ r h => by simp [zoneinfolaw05_DatetimeFields.j2] at h, fun _ _ _ _ _ _ _ _ _ _ _ _ _ _ r h => by simp [zoneinfolaw05_DatetimeFields.j3] at h⟩
  | k + 1 => by
    obtain ⟨ih0, ih1, ih2, ih3⟩ := zoneinfolaw05_DatetimeFields.mono_l k
    refine ⟨?_, ?_, ?_, ?_⟩
    · intro y0 y1
      unfold zoneinfolaw05_DatetimeFields.j0
      repeat' first
      | (with_reducible exact ih0 _ _)
      | (with_reducible exact ih1 _ _ _ _ _ _ _ _ _ _ _ _ _ _ _)
      | (with_reducible exact ih2 _ _ _ _ _ _ _ _ _ _ _ _ _ _)
      | (with_reducible exact ih3 _ _ _ _ _ _ _ _ _ _ _ _ _ _)
      | (with_reducible exact zoneinfolaw05_awake.mono _)
      | (with_reducible exact LeO.refl _)
      | (with_reducible exact LeO.none _)
      | (with_reducible refine LeO.ite ?_ ?_)
      | (with_reducible refine LeO.bind ?_ (fun _ => ?_))
      | exact ih0 _ _
      | exact ih1 _ _ _ _ _ _ _ _ _ _ _ _ _ _ _
      | exact ih2 _ _ _ _ _ _ _ _ _ _ _ _ _ _
      | exact ih3 _ _ _ _ _ _ _ _ _ _ _ _ _ _
      | exact zoneinfolaw05_awake.mono _
      | exact LeO.none _
      | refine LeO.ite ?_ ?_
      | refine LeO.bind ?_ (fun _ => ?_)
    · intro y0 y1 y2 y3 y4 y5 y6 y7 y8 y9 y10 y11 y12 y13 y14
      unfold zoneinfolaw05_DatetimeFields.j1
      repeat' first
      | (with_reducible exact ih0 _ _)
      | (with_reducible exact ih1 _ _ _ _ _ _ _ _ _ _ _ _ _ _ _)
      | (with_reducible exact ih2 _ _ _ _ _ _ _ _ _ _ _ _ _ _)
      | (with_reducible exact ih3 _ _ _ _ _ _ _ _ _ _ _ _ _ _)
      | (with_reducible exact zoneinfolaw05_awake.mono _)
      | (with_reducible exact LeO.refl _)
      | (with_reducible exact LeO.none _)
      | (with_reducible refine LeO.ite ?_ ?_)
      | (with_reducible refine LeO.bind ?_ (fun _ => ?_))
      | exact ih0 _ _
      | exact ih1 _ _ _ _ _ _ _ _ _ _ _ _ _ _ _
      | exact ih2 _ _ _ _ _ _ _ _ _ _ _ _ _ _
      | exact ih3 _ _ _ _ _ _ _ _ _ _ _ _ _ _
      | exact zoneinfolaw05_awake.mono _
      | exact LeO.none _
      | refine LeO.ite ?_ ?_
      | refine LeO.bind ?_ (fun _ => ?_)
    · intro y0 y1 y2 y3 y4 y5 y6 y7 y8 y9 y10 y11 y12 y13
      unfold zoneinfolaw05_DatetimeFields.j2
      repeat' first
      | (with_reducible exact ih0 _ _)
      | (with_reducible exact ih1 _ _ _ _ _ _ _ _ _ _ _ _ _ _ _)
      | (with_reducible exact ih2 _ _ _ _ _ _ _ _ _ _ _ _ _ _)
      | (with_reducible exact ih3 _ _ _ _ _ _ _ _ _ _ _ _ _ _)
      | (with_reducible exact zoneinfolaw05_awake.mono _)
      | (with_reducible exact LeO.refl _)
      | (with_reducible exact LeO.none _)
      | (with_reducible refine LeO.ite ?_ ?_)
      | (with_reducible refine LeO.bind ?_ (fun _ => ?_))
      | exact ih0 _ _
      | exact ih1 _ _ _ _ _ _ _ _ _ _ _ _ _ _ _
      | exact ih2 _ _ _ _ _ _ _ _ _ _ _ _ _ _
      | exact ih3 _ _ _ _ _ _ _ _ _ _ _ _ _ _
      | exact zoneinfolaw05_awake.mono _
      | exact LeO.none _
      | refine LeO.ite ?_ ?_
      | refine LeO.bind ?_ (fun _ => ?_)
    · intro y0 y1 y2 y3 y4 y5 y6 y7 y8 y9 y10 y11 y12 y13
      unfold zoneinfolaw05_DatetimeFields.j3
      repeat' first
      | (with_reducible exact ih0 _ _)
      | (with_reducible exact ih1 _ _ _ _ _ _ _ _ _ _ _ _ _ _ _)
      | (with_reducible exact ih2 _ _ _ _ _ _ _ _ _ _ _ _ _ _)
      | (with_reducible exact ih3 _ _ _ _ _ _ _ _ _ _ _ _ _ _)
      | (with_reducible exact zoneinfolaw05_awake.mono _)
      | (with_reducible exact LeO.refl _)
      | (with_reducible exact LeO.none _)
      | (with_reducible refine LeO.ite ?_ ?_)
      | (with_reducible refine LeO.bind ?_ (fun _ => ?_))
      | exact ih0 _ _
      | exact ih1 _ _ _ _ _ _ _ _ _ _ _ _ _ _ _
      | exact ih2 _ _ _ _ _ _ _ _ _ _ _ _ _ _
      | exact ih3 _ _ _ _ _ _ _ _ _ _ _ _ _ _
      | exact zoneinfolaw05_awake.mono _
      | exact LeO.none _
      | refine LeO.ite ?_ ?_
      | refine LeO.bind ?_ (fun _ => ?_)
theorem zoneinfolaw05_DatetimeFields.mono : ∀ a0 k, LeO (zoneinfolaw05_DatetimeFields.f k a0) (zoneinfolaw05_DatetimeFields.f (k + 1) a0) := by
  intro a0 k
  obtain ⟨ih0, ih1, ih2, ih3⟩ := zoneinfolaw05_DatetimeFields.mono_l k
  unfold zoneinfolaw05_DatetimeFields.f
  repeat' first
      | (with_reducible exact ih0 _ _)
      | (with_reducible exact ih1 _ _ _ _ _ _ _ _ _ _ _ _ _ _ _)
      | (with_reducible exact ih2 _ _ _ _ _ _ _ _ _ _ _ _ _ _)
      | (with_reducible exact ih3 _ _ _ _ _ _ _ _ _ _ _ _ _ _)
      | (with_reducible exact zoneinfolaw05_awake.mono _)
      | (with_reducible exact LeO.refl _)
      | (with_reducible exact LeO.none _)
      | (with_reducible refine LeO.ite ?_ ?_)
      | (with_reducible refine LeO.bind ?_ (fun _ => ?_))
      | exact ih0 _ _
      | exact ih1 _ _ _ _ _ _ _ _ _ _ _ _ _ _ _
      | exact ih2 _ _ _ _ _ _ _ _ _ _ _ _ _ _
      | exact ih3 _ _ _ _ _ _ _ _ _ _ _ _ _ _
      | exact zoneinfolaw05_awake.mono _
      | exact LeO.none _
      | refine LeO.ite ?_ ?_
      | refine LeO.bind ?_ (fun _ => ?_)
set_option maxHeartbeats 8000000 in
set_option maxRecDepth 100000 in
theorem zoneinfolaw05_DatetimeFields.calls (k : Nat) (a0 : Int) (r : Bool) (w : World) (hrg : GL w) (h : zoneinfolaw05_DatetimeFields.f k a0 = some r) :
    Calls Tryd.prog 7 #[.int .i64 a0] w fun e w' => e = .returned (.bool r) ∧ Below w.heap.size w w' := by
  have hu23 := Tryd.underlying23
  have HRg := Aside0.mk hrg
  clear hrg
  have HB := Aside0.mk (Below.refl w.heap.size w)
  have H : ((zoneinfolaw05_awake.f k).bind fun t262 => (if t262 = true then (zoneinfolaw05_DatetimeFields.j0 k a0 (a0 == 9223372036854775807)) else (zoneinfolaw05_DatetimeFields.j0 k a0 true))) = some r := h
  clear h
  have HC2 := Aside0.mk H
  clear H
  go_enter Tryd.func7, Tryd.ntmps7
  go_upto_region 1 with (fail)
  go_cut [14] (fun v14 wc => ∃ (kq : Nat) (x14_1 : Bool), v14 = .bool x14_1 ∧ Aside0 (zoneinfolaw05_DatetimeFields.j0 kq a0 x14_1 = some r) ∧ Aside0 (kq ≤ k) ∧ Aside0 (Below w.heap.size w wc))
  case first =>
    have H := HC2.out
    clear HC2
    replace H := Option.bind_eq_some_iff.mp H
    obtain ⟨t262, A30, H⟩ := H
    replace H : (if t262 = true then (zoneinfolaw05_DatetimeFields.j0 k a0 (a0 == 9223372036854775807)) else (zoneinfolaw05_DatetimeFields.j0 k a0 true)) = some r := H
    have A3 := Aside0.mk A30
    clear A30
    by_cases c4 : t262 = true
    · subst c4
      have H1 : (zoneinfolaw05_DatetimeFields.j0 k a0 (a0 == 9223372036854775807)) = some r := by rw [if_pos rfl] at H; exact H
      clear H
      have H := H1
      clear H1
      have H' := Aside0.mk H
      clear H
      go_wp2_with (first | (go_at_call 8; (with_reducible refine (zoneinfolaw05_awake.calls k  true _ ?side1 A3.out).mono ?_); (case side1 => repeat (first | exact (Kd.C_below HRg.out HB.out) | (with_reducible refine Kd.C_alloc ?_ _) | (with_reducible refine Kd.C_drewN ?_ _) | (with_reducible refine Kd.C_drew ?_))); rintro e w5 ⟨rfl, hb⟩; have n0_ := Aside0.mk (below_step (by repeat (first | (with_reducible first | exact HB.out | apply below_alloc | apply pw_below_drewN | apply below_drew1) | exact HB.out)) hb); clear HB; have HB := n0_; clear n0_; (try clear hb); (try clear hb2); (try clear hk); (try clear hi)))
      go_meet
      case rel => exact ⟨_, ((a0 == 9223372036854775807)), (by first | rfl | (simp; done) | (simp [*]; done)), H', ⟨by first | omega | exact Nat.le_refl _⟩, ⟨by repeat (first | (with_reducible first | exact HB.out | apply below_alloc | apply pw_below_drewN | apply below_drew1) | exact HB.out)⟩⟩
    · replace c4 := Bool.eq_false_iff.mpr c4
      subst c4
      have H1 : (zoneinfolaw05_DatetimeFields.j0 k a0 true) = some r := by rw [if_neg (show ¬ (false = true) by decide)] at H; exact H
      clear H
      have H := H1
      clear H1
      have H' := Aside0.mk H
      clear H
      go_wp2_with (first | (go_at_call 8; (with_reducible refine (zoneinfolaw05_awake.calls k  false _ ?side1 A3.out).mono ?_); (case side1 => repeat (first | exact (Kd.C_below HRg.out HB.out) | (with_reducible refine Kd.C_alloc ?_ _) | (with_reducible refine Kd.C_drewN ?_ _) | (with_reducible refine Kd.C_drew ?_))); rintro e w6 ⟨rfl, hb⟩; have n0_ := Aside0.mk (below_step (by repeat (first | (with_reducible first | exact HB.out | apply below_alloc | apply pw_below_drewN | apply below_drew1) | exact HB.out)) hb); clear HB; have HB := n0_; clear n0_; (try clear hb); (try clear hb2); (try clear hk); (try clear hi)))
      go_meet
      case rel => exact ⟨_, (true), (by first | rfl | (simp; done) | (simp [*]; done)), H', ⟨by first | omega | exact Nat.le_refl _⟩, ⟨by repeat (first | (with_reducible first | exact HB.out | apply below_alloc | apply pw_below_drewN | apply below_drew1) | exact HB.out)⟩⟩
  case rest =>
    clear HC2
    try clear p2
    try clear c4
    obtain ⟨kq, x14_1, rfl, HA, HJ1, HB⟩ := hcut
    cases kq with
    | zero => exact absurd HA.out (by simp [zoneinfolaw05_DatetimeFields.j0])
    | succ kj1 =>
      have H := HA.out
      clear HA
      simp only [zoneinfolaw05_DatetimeFields.j0] at H
      by_cases c7 : x14_1 = true
      · subst c7
        have H1 : ((zoneinfolaw05_awake.f kj1).bind fun t263 => (some t263)) = some r := by rw [if_pos rfl] at H; exact H
        clear H
        have H := H1
        clear H1
        replace H := Option.bind_eq_some_iff.mp H
        obtain ⟨t263, A80, H⟩ := H
        replace H : (some t263) = some r := H
        have A8 := Aside0.mk A80
        clear A80
        obtain rfl := Option.some.inj H
        go_wp2_with (first | ((with_reducible refine gate_callee (f := 8) rfl ?_); refine goesL_ (some 15) rfl rfl Tryd.func8 (by kernel_rfl) rfl #[] rfl (by (try simp only [List.map_toArray, List.map_cons, List.map_nil]); first | done | rfl | (simp only [List.length_drop, List.length_take]; rfl)) ?_; (with_reducible refine (zoneinfolaw05_awake.calls kj1  t263 _ ?side1 A8.out).mono ?_); (case side1 => repeat (first | exact (Kd.C_below HRg.out HB.out) | (with_reducible refine Kd.C_alloc ?_ _) | (with_reducible refine Kd.C_drewN ?_ _) | (with_reducible refine Kd.C_drew ?_))); rintro e w9 ⟨rfl, hb⟩; refine ⟨_, rfl, ?_⟩; have n0_ := Aside0.mk (below_step (by repeat (first | (with_reducible first | exact HB.out | apply below_alloc | apply pw_below_drewN | apply below_drew1) | exact HB.out)) hb); clear HB; have HB := n0_; clear n0_; (try clear hb); (try clear hb2); (try clear hk); (try clear hi)))
        go_ret
        exact ⟨by first | rfl | (simp [errW_none, errW_some] <;> rfl) | (simp [*, errW_none, errW_some] <;> rfl), by repeat (first | (with_reducible first | exact HB.out | apply below_alloc | apply pw_below_drewN | apply below_drew1) | exact HB.out)⟩
      · replace c7 := Bool.eq_false_iff.mpr c7
        subst c7
        have H1 : ((datetime_Of.f a0).bind fun bt264 => ((datetime_Of.f (wrap64 (a0 + 1))).bind fun bt272 => ((datetime_Split.f a0).bind fun bt280 => (if (wrap64 ((wrap64 ((wrap64 (bt264.2.2.2.1 * 3600)) + (wrap64 (bt264.2.2.2.2.1 * 60)))) + bt264.2.2.2.2.2.1)) = bt280.2 then (if bt264.2.2.2.1 < 0 then (zoneinfolaw05_DatetimeFields.j1 kj1 true bt264.1 bt264.2.1 bt264.2.2.1 bt264.2.2.2.1 bt264.2.2.2.2.1 bt264.2.2.2.2.2.1 bt264.2.2.2.2.2.2 bt272.1 bt272.2.1 bt272.2.2.1 bt272.2.2.2.1 bt272.2.2.2.2.1 bt272.2.2.2.2.2.1 bt272.2.2.2.2.2.2) else (if bt264.2.2.2.1 > 23 then (zoneinfolaw05_DatetimeFields.j1 kj1 true bt264.1 bt264.2.1 bt264.2.2.1 bt264.2.2.2.1 bt264.2.2.2.2.1 bt264.2.2.2.2.2.1 bt264.2.2.2.2.2.2 bt272.1 bt272.2.1 bt272.2.2.1 bt272.2.2.2.1 bt272.2.2.2.2.1 bt272.2.2.2.2.2.1 bt272.2.2.2.2.2.2) else (if bt264.2.2.2.2.1 < 0 then (zoneinfolaw05_DatetimeFields.j1 kj1 true bt264.1 bt264.2.1 bt264.2.2.1 bt264.2.2.2.1 bt264.2.2.2.2.1 bt264.2.2.2.2.2.1 bt264.2.2.2.2.2.2 bt272.1 bt272.2.1 bt272.2.2.1 bt272.2.2.2.1 bt272.2.2.2.2.1 bt272.2.2.2.2.2.1 bt272.2.2.2.2.2.2) else (if bt264.2.2.2.2.1 > 59 then (zoneinfolaw05_DatetimeFields.j1 kj1 true bt264.1 bt264.2.1 bt264.2.2.1 bt264.2.2.2.1 bt264.2.2.2.2.1 bt264.2.2.2.2.2.1 bt264.2.2.2.2.2.2 bt272.1 bt272.2.1 bt272.2.2.1 bt272.2.2.2.1 bt272.2.2.2.2.1 bt272.2.2.2.2.2.1 bt272.2.2.2.2.2.2) else (if bt264.2.2.2.2.2.1 < 0 then (zoneinfolaw05_DatetimeFields.j1 kj1 true bt264.1 bt264.2.1 bt264.2.2.1 bt264.2.2.2.1 bt264.2.2.2.2.1 bt264.2.2.2.2.2.1 bt264.2.2.2.2.2.2 bt272.1 bt272.2.1 bt272.2.2.1 bt272.2.2.2.1 bt272.2.2.2.2.1 bt272.2.2.2.2.2.1 bt272.2.2.2.2.2.2) else (zoneinfolaw05_DatetimeFields.j1 kj1 (decide (bt264.2.2.2.2.2.1 > 59)) bt264.1 bt264.2.1 bt264.2.2.1 bt264.2.2.2.1 bt264.2.2.2.2.1 bt264.2.2.2.2.2.1 bt264.2.2.2.2.2.2 bt272.1 bt272.2.1 bt272.2.2.1 bt272.2.2.2.1 bt272.2.2.2.2.1 bt272.2.2.2.2.2.1 bt272.2.2.2.2.2.2)))))) else (zoneinfolaw05_DatetimeFields.j1 kj1 true bt264.1 bt264.2.1 bt264.2.2.1 bt264.2.2.2.1 bt264.2.2.2.2.1 bt264.2.2.2.2.2.1 bt264.2.2.2.2.2.2 bt272.1 bt272.2.1 bt272.2.2.1 bt272.2.2.2.1 bt272.2.2.2.2.1 bt272.2.2.2.2.2.1 bt272.2.2.2.2.2.2))))) = some r := by rw [if_neg (show ¬ (false = true) by decide)] at H; exact H
        clear H
        have H := H1
        clear H1
        replace H := Option.bind_eq_some_iff.mp H
        obtain ⟨⟨t264, t265, t266, t267, t268, t269, t270⟩, A100, H⟩ := H
        replace H : ((datetime_Of.f (wrap64 (a0 + 1))).bind fun bt272 => ((datetime_Split.f a0).bind fun bt280 => (if (wrap64 ((wrap64 ((wrap64 (t267 * 3600)) + (wrap64 (t268 * 60)))) + t269)) = bt280.2 then (if t267 < 0 then (zoneinfolaw05_DatetimeFields.j1 kj1 true t264 t265 t266 t267 t268 t269 t270 bt272.1 bt272.2.1 bt272.2.2.1 bt272.2.2.2.1 bt272.2.2.2.2.1 bt272.2.2.2.2.2.1 bt272.2.2.2.2.2.2) else (if t267 > 23 then (zoneinfolaw05_DatetimeFields.j1 kj1 true t264 t265 t266 t267 t268 t269 t270 bt272.1 bt272.2.1 bt272.2.2.1 bt272.2.2.2.1 bt272.2.2.2.2.1 bt272.2.2.2.2.2.1 bt272.2.2.2.2.2.2) else (if t268 < 0 then (zoneinfolaw05_DatetimeFields.j1 kj1 true t264 t265 t266 t267 t268 t269 t270 bt272.1 bt272.2.1 bt272.2.2.1 bt272.2.2.2.1 bt272.2.2.2.2.1 bt272.2.2.2.2.2.1 bt272.2.2.2.2.2.2) else (if t268 > 59 then (zoneinfolaw05_DatetimeFields.j1 kj1 true t264 t265 t266 t267 t268 t269 t270 bt272.1 bt272.2.1 bt272.2.2.1 bt272.2.2.2.1 bt272.2.2.2.2.1 bt272.2.2.2.2.2.1 bt272.2.2.2.2.2.2) else (if t269 < 0 then (zoneinfolaw05_DatetimeFields.j1 kj1 true t264 t265 t266 t267 t268 t269 t270 bt272.1 bt272.2.1 bt272.2.2.1 bt272.2.2.2.1 bt272.2.2.2.2.1 bt272.2.2.2.2.2.1 bt272.2.2.2.2.2.2) else (zoneinfolaw05_DatetimeFields.j1 kj1 (decide (t269 > 59)) t264 t265 t266 t267 t268 t269 t270 bt272.1 bt272.2.1 bt272.2.2.1 bt272.2.2.2.1 bt272.2.2.2.2.1 bt272.2.2.2.2.2.1 bt272.2.2.2.2.2.2)))))) else (zoneinfolaw05_DatetimeFields.j1 kj1 true t264 t265 t266 t267 t268 t269 t270 bt272.1 bt272.2.1 bt272.2.2.1 bt272.2.2.2.1 bt272.2.2.2.2.1 bt272.2.2.2.2.2.1 bt272.2.2.2.2.2.2)))) = some r := H
        have A10 := Aside0.mk A100
        clear A100
        replace H := Option.bind_eq_some_iff.mp H
        obtain ⟨⟨t272, t273, t274, t275, t276, t277, t278⟩, A110, H⟩ := H
        replace H : ((datetime_Split.f a0).bind fun bt280 => (if (wrap64 ((wrap64 ((wrap64 (t267 * 3600)) + (wrap64 (t268 * 60)))) + t269)) = bt280.2 then (if t267 < 0 then (zoneinfolaw05_DatetimeFields.j1 kj1 true t264 t265 t266 t267 t268 t269 t270 t272 t273 t274 t275 t276 t277 t278) else (if t267 > 23 then (zoneinfolaw05_DatetimeFields.j1 kj1 true t264 t265 t266 t267 t268 t269 t270 t272 t273 t274 t275 t276 t277 t278) else (if t268 < 0 then (zoneinfolaw05_DatetimeFields.j1 kj1 true t264 t265 t266 t267 t268 t269 t270 t272 t273 t274 t275 t276 t277 t278) else (if t268 > 59 then (zoneinfolaw05_DatetimeFields.j1 kj1 true t264 t265 t266 t267 t268 t269 t270 t272 t273 t274 t275 t276 t277 t278) else (if t269 < 0 then (zoneinfolaw05_DatetimeFields.j1 kj1 true t264 t265 t266 t267 t268 t269 t270 t272 t273 t274 t275 t276 t277 t278) else (zoneinfolaw05_DatetimeFields.j1 kj1 (decide (t269 > 59)) t264 t265 t266 t267 t268 t269 t270 t272 t273 t274 t275 t276 t277 t278)))))) else (zoneinfolaw05_DatetimeFields.j1 kj1 true t264 t265 t266 t267 t268 t269 t270 t272 t273 t274 t275 t276 t277 t278))) = some r := H
        have A11 := Aside0.mk A110
        clear A110
        replace H := Option.bind_eq_some_iff.mp H
        obtain ⟨⟨t280, t281⟩, A120, H⟩ := H
        replace H : (if (wrap64 ((wrap64 ((wrap64 (t267 * 3600)) + (wrap64 (t268 * 60)))) + t269)) = t281 then (if t267 < 0 then (zoneinfolaw05_DatetimeFields.j1 kj1 true t264 t265 t266 t267 t268 t269 t270 t272 t273 t274 t275 t276 t277 t278) else (if t267 > 23 then (zoneinfolaw05_DatetimeFields.j1 kj1 true t264 t265 t266 t267 t268 t269 t270 t272 t273 t274 t275 t276 t277 t278) else (if t268 < 0 then (zoneinfolaw05_DatetimeFields.j1 kj1 true t264 t265 t266 t267 t268 t269 t270 t272 t273 t274 t275 t276 t277 t278) else (if t268 > 59 then (zoneinfolaw05_DatetimeFields.j1 kj1 true t264 t265 t266 t267 t268 t269 t270 t272 t273 t274 t275 t276 t277 t278) else (if t269 < 0 then (zoneinfolaw05_DatetimeFields.j1 kj1 true t264 t265 t266 t267 t268 t269 t270 t272 t273 t274 t275 t276 t277 t278) else (zoneinfolaw05_DatetimeFields.j1 kj1 (decide (t269 > 59)) t264 t265 t266 t267 t268 t269 t270 t272 t273 t274 t275 t276 t277 t278)))))) else (zoneinfolaw05_DatetimeFields.j1 kj1 true t264 t265 t266 t267 t268 t269 t270 t272 t273 t274 t275 t276 t277 t278)) = some r := H
        have A12 := Aside0.mk A120
        clear A120
        have HC13 := Aside0.mk H
        clear H
        go_upto_region 6 with (first | ((with_reducible refine gate_callee (f := 13) rfl ?_); refine goesL_ (some 17) rfl rfl Tryd.func13 (by kernel_rfl) rfl #[.int .i64 a0] rfl (by (try simp only [List.map_toArray, List.map_cons, List.map_nil]); first | done | rfl | (simp only [List.length_drop, List.length_take]; rfl)) ?_; (with_reducible refine (datetime_Of.calls a0 t264 t265 t266 t267 t268 t269 t270 _ A10.out).mono ?_); rintro e w14 ⟨rfl, hb⟩; refine ⟨_, rfl, ?_⟩; have n0_ := Aside0.mk (below_step (by repeat (first | (with_reducible first | exact HB.out | apply below_alloc | apply pw_below_drewN | apply below_drew1) | exact HB.out)) hb); clear HB; have HB := n0_; clear n0_; (try clear hb); (try clear hb2); (try clear hk); (try clear hi)) | ((with_reducible refine gate_dst (N := 3) rfl ?_); refine box_event ?hg (N := 3) ?hd (cs := #[.int .i64 0, .int .i64 0, .int .i64 0, .int .i64 0, .int .i64 0, .int .i64 0, .int .i64 0]) (t := 23) ?hr ?_; (case hd => rfl); (case hg => rfl); (case hr => first | (go_simp; done) | (go_simp; rfl)); intro gb271 hg w15 hbox hb; have n0_ := Aside0.mk (below_step (by repeat (first | (with_reducible first | exact HB.out | apply below_alloc | apply pw_below_drewN | apply below_drew1) | exact HB.out)) hb); have n1_ := Aside0.mk (hbox); have n2_ := Aside0.mk ((by rw [hg]; exact (below_size (by repeat (first | (with_reducible first | exact HB.out | apply below_alloc | apply pw_below_drewN | apply below_drew1) | exact HB.out))) : w.heap.size ≤ gb271)); have n3_ := Aside0.mk ((by rw [hg]; exact (below_size (by repeat (first | (with_reducible first | exact HB.out | apply below_alloc | apply pw_below_drewN | apply below_drew1) | exact HB.out))) : w.heap.size ≤ gb271)); clear HB; have HB := n0_; have BK271 := n1_; have GW271 := n2_; have GE271 := n3_; clear n0_ n1_ n2_ n3_; clear hb hbox hg; have hcz16_0 : w15.cell? ⟨gb271, 0, none⟩ = some (.int .i64 0) := (blk_cell BK271.out 0).trans rfl; have hcz16_1 : w15.cell? ⟨gb271, 1, none⟩ = some (.int .i64 0) := (blk_cell BK271.out 1).trans rfl; have hcz16_2 : w15.cell? ⟨gb271, 2, none⟩ = some (.int .i64 0) := (blk_cell BK271.out 2).trans rfl; have hcz16_3 : w15.cell? ⟨gb271, 3, none⟩ = some (.int .i64 0) := (blk_cell BK271.out 3).trans rfl; have hcz16_4 : w15.cell? ⟨gb271, 4, none⟩ = some (.int .i64 0) := (blk_cell BK271.out 4).trans rfl; have hcz16_5 : w15.cell? ⟨gb271, 5, none⟩ = some (.int .i64 0) := (blk_cell BK271.out 5).trans rfl; have hcz16_6 : w15.cell? ⟨gb271, 6, none⟩ = some (.int .i64 0) := (blk_cell BK271.out 6).trans rfl; have hfz16_0 := blk_frozen BK271.out 0; have hfz16_1 := blk_frozen BK271.out 1; have hfz16_2 := blk_frozen BK271.out 2; have hfz16_3 := blk_frozen BK271.out 3; have hfz16_4 := blk_frozen BK271.out 4; have hfz16_5 := blk_frozen BK271.out 5; have hfz16_6 := blk_frozen BK271.out 6) | ((with_reducible refine gate_callee (f := 13) rfl ?_); refine goesL_ (some 20) rfl rfl Tryd.func13 (by kernel_rfl) rfl #[.int .i64 (wrap64 (a0 + 1))] rfl (by (try simp only [List.map_toArray, List.map_cons, List.map_nil]); first | done | rfl | (simp only [List.length_drop, List.length_take]; rfl)) ?_; (with_reducible refine (datetime_Of.calls (wrap64 (a0 + 1)) t272 t273 t274 t275 t276 t277 t278 _ A11.out).mono ?_); rintro e w17 ⟨rfl, hb⟩; refine ⟨_, rfl, ?_⟩; have n0_ := Aside0.mk (blk_below (g := gb271) (o := .cells #[.int .i64 t264, .int .i64 t265, .int .i64 t266, .int .i64 t267, .int .i64 t268, .int .i64 t269, .int .i64 t270] 23 (0, 0)) (by (with_reducible repeat (first | refine blk_drewN ?_ _ | refine blk_drew ?_ | refine blk_alloc ?_ _)); refine blk_put (cs := #[.int .i64 t264, .int .i64 t265, .int .i64 t266, .int .i64 t267, .int .i64 t268, .int .i64 t269, .int .i64 0]) ?_ 6 _ rfl; (with_reducible repeat (first | refine blk_drewN ?_ _ | refine blk_drew ?_ | refine blk_alloc ?_ _)); refine blk_put (cs := #[.int .i64 t264, .int .i64 t265, .int .i64 t266, .int .i64 t267, .int .i64 t268, .int .i64 0, .int .i64 0]) ?_ 5 _ rfl; (with_reducible repeat (first | refine blk_drewN ?_ _ | refine blk_drew ?_ | refine blk_alloc ?_ _)); refine blk_put (cs := #[.int .i64 t264, .int .i64 t265, .int .i64 t266, .int .i64 t267, .int .i64 0, .int .i64 0, .int .i64 0]) ?_ 4 _ rfl; (with_reducible repeat (first | refine blk_drewN ?_ _ | refine blk_drew ?_ | refine blk_alloc ?_ _)); refine blk_put (cs := #[.int .i64 t264, .int .i64 t265, .int .i64 t266, .int .i64 0, .int .i64 0, .int .i64 0, .int .i64 0]) ?_ 3 _ rfl; (with_reducible repeat (first | refine blk_drewN ?_ _ | refine blk_drew ?_ | refine blk_alloc ?_ _)); refine blk_put (cs := #[.int .i64 t264, .int .i64 t265, .int .i64 0, .int .i64 0, .int .i64 0, .int .i64 0, .int .i64 0]) ?_ 2 _ rfl; (with_reducible repeat (first | refine blk_drewN ?_ _ | refine blk_drew ?_ | refine blk_alloc ?_ _)); refine blk_put (cs := #[.int .i64 t264, .int .i64 0, .int .i64 0, .int .i64 0, .int .i64 0, .int .i64 0, .int .i64 0]) ?_ 1 _ rfl; (with_reducible repeat (first | refine blk_drewN ?_ _ | refine blk_drew ?_ | refine blk_alloc ?_ _)); refine blk_put (cs := #[.int .i64 0, .int .i64 0, .int .i64 0, .int .i64 0, .int .i64 0, .int .i64 0, .int .i64 0]) ?_ 0 _ rfl; (with_reducible repeat (first | refine blk_drewN ?_ _ | refine blk_drew ?_ | refine blk_alloc ?_ _)); exact BK271.out) hb); have n1_ := Aside0.mk (below_step (by repeat (first | (with_reducible first | exact HB.out | apply below_alloc | apply pw_below_drewN | apply below_drew1 | refine below_set ?_ GE271.out) | exact HB.out)) hb); clear BK271; clear HB; have BK271 := n0_; have HB := n1_; clear n0_ n1_; (try clear hb); (try clear hb2); (try clear hk); (try clear hi)) | ((with_reducible refine gate_dst (N := 4) rfl ?_); refine box_event ?hg (N := 4) ?hd (cs := #[.int .i64 0, .int .i64 0, .int .i64 0, .int .i64 0, .int .i64 0, .int .i64 0, .int .i64 0]) (t := 23) ?hr ?_; (case hd => rfl); (case hg => rfl); (case hr => first | (go_simp; done) | (go_simp; rfl)); intro gb279 hg w18 hbox hb; have n0_ := Aside0.mk (blk_below (g := gb271) (o := .cells #[.int .i64 t264, .int .i64 t265, .int .i64 t266, .int .i64 t267, .int .i64 t268, .int .i64 t269, .int .i64 t270] 23 (0, 0)) (by (with_reducible repeat (first | refine blk_drewN ?_ _ | refine blk_drew ?_ | refine blk_alloc ?_ _)); exact BK271.out) hb); have n1_ := Aside0.mk (below_step (by repeat (first | (with_reducible first | exact HB.out | apply below_alloc | apply pw_below_drewN | apply below_drew1 | refine below_set ?_ GE271.out) | exact HB.out)) hb); have n2_ := Aside0.mk (hbox); have n3_ := Aside0.mk ((by rw [hg]; exact (below_size (by repeat (first | (with_reducible first | exact HB.out | apply below_alloc | apply pw_below_drewN | apply below_drew1 | refine below_set ?_ GE271.out) | exact HB.out))) : w.heap.size ≤ gb279)); have n4_ := Aside0.mk ((by rw [hg]; exact (below_size (by repeat (first | (with_reducible first | exact HB.out | apply below_alloc | apply pw_below_drewN | apply below_drew1 | refine below_set ?_ GE271.out) | exact HB.out))) : w.heap.size ≤ gb279)); have n5_ := Aside0.mk ((by rw [hg]; exact Nat.ne_of_lt (blk_lt (g := gb271) (o := .cells #[.int .i64 t264, .int .i64 t265, .int .i64 t266, .int .i64 t267, .int .i64 t268, .int .i64 t269, .int .i64 t270] 23 (0, 0)) (by (with_reducible repeat (first | refine blk_drewN ?_ _ | refine blk_drew ?_ | refine blk_alloc ?_ _)); exact BK271.out)) : gb271 ≠ gb279)); have n6_ := Aside0.mk ((by rw [hg]; exact Nat.ne_of_gt (blk_lt (g := gb271) (o := .cells #[.int .i64 t264, .int .i64 t265, .int .i64 t266, .int .i64 t267, .int .i64 t268, .int .i64 t269, .int .i64 t270] 23 (0, 0)) (by (with_reducible repeat (first | refine blk_drewN ?_ _ | refine blk_drew ?_ | refine blk_alloc ?_ _)); exact BK271.out)) : gb279 ≠ gb271)); clear BK271; clear HB; have BK271 := n0_; have HB := n1_; have BK279 := n2_; have GW279 := n3_; have GE279 := n4_; have NB271_279 := n5_; have NB279_271 := n6_; clear n0_ n1_ n2_ n3_ n4_ n5_ n6_; clear hb hbox hg; have hnb19 := NB279_271.out; have hnc19 := NB271_279.out; have hcz20_0 : w18.cell? ⟨gb279, 0, none⟩ = some (.int .i64 0) := (blk_cell BK279.out 0).trans rfl; have hcz20_1 : w18.cell? ⟨gb279, 1, none⟩ = some (.int .i64 0) := (blk_cell BK279.out 1).trans rfl; have hcz20_2 : w18.cell? ⟨gb279, 2, none⟩ = some (.int .i64 0) := (blk_cell BK279.out 2).trans rfl; have hcz20_3 : w18.cell? ⟨gb279, 3, none⟩ = some (.int .i64 0) := (blk_cell BK279.out 3).trans rfl; have hcz20_4 : w18.cell? ⟨gb279, 4, none⟩ = some (.int .i64 0) := (blk_cell BK279.out 4).trans rfl; have hcz20_5 : w18.cell? ⟨gb279, 5, none⟩ = some (.int .i64 0) := (blk_cell BK279.out 5).trans rfl; have hcz20_6 : w18.cell? ⟨gb279, 6, none⟩ = some (.int .i64 0) := (blk_cell BK279.out 6).trans rfl; have hfz20_0 := blk_frozen BK279.out 0; have hfz20_1 := blk_frozen BK279.out 1; have hfz20_2 := blk_frozen BK279.out 2; have hfz20_3 := blk_frozen BK279.out 3; have hfz20_4 := blk_frozen BK279.out 4; have hfz20_5 := blk_frozen BK279.out 5; have hfz20_6 := blk_frozen BK279.out 6) | ((with_reducible refine gate_callee (f := 9) rfl ?_); refine goesL_ (some 23) rfl rfl Tryd.func9 (by kernel_rfl) rfl #[.int .i64 a0] rfl (by (try simp only [List.map_toArray, List.map_cons, List.map_nil]); first | done | rfl | (simp only [List.length_drop, List.length_take]; rfl)) ?_; (with_reducible refine (datetime_Split.calls a0 t280 t281 _ A12.out).mono ?_); rintro e w' ⟨rfl, ⟨nd, rfl⟩⟩; refine ⟨_, rfl, ?_⟩))
        (try simp only [Act.put, List.setIfInBounds_toArray, List.set_cons_zero, List.set_cons_succ])
        go_cut [67] (fun v67 wc => ∃ (kq : Nat) (x67_12 : Bool), v67 = .bool x67_12 ∧ Aside0 (zoneinfolaw05_DatetimeFields.j1 kq x67_12 t264 t265 t266 t267 t268 t269 t270 t272 t273 t274 t275 t276 t277 t278 = some r) ∧ Aside0 (kq ≤ kj1) ∧ Aside0 (wc.heap[gb271]? = some (.cells #[.int .i64 t264, .int .i64 t265, .int .i64 t266, .int .i64 t267, .int .i64 t268, .int .i64 t269, .int .i64 t270] 23 (0, 0))) ∧ Aside0 (wc.heap[gb279]? = some (.cells #[.int .i64 t272, .int .i64 t273, .int .i64 t274, .int .i64 t275, .int .i64 t276, .int .i64 t277, .int .i64 t278] 23 (0, 0))) ∧ Aside0 (Below w.heap.size w wc))
        case first =>
          have H := HC13.out
          clear HC13
          by_cases c21 : (wrap64 ((wrap64 ((wrap64 (t267 * 3600)) + (wrap64 (t268 * 60)))) + t269)) = t281
          · rw [if_pos c21] at H
            have c21b0 : ((wrap64 ((wrap64 ((wrap64 (t267 * 3600)) + (wrap64 (t268 * 60)))) + t269)) == t281) = true := beq_iff_eq.mpr c21
            have c21b1 : ((wrap64 ((wrap64 ((wrap64 (t267 * 3600)) + (wrap64 (t268 * 60)))) + t269)) != t281) = false := bne_eq_false_iff_eq.mpr c21
            clear c21
            (first | rw [c21b0] | (simp only [i64_w, i32_w]; rw [c21b0]) | skip)
            by_cases c22 : t267 < 0
            · rw [if_pos c22] at H
              have c22b0 : decide (t267 < 0) = true := decide_eq_true c22
              clear c22
              have H' := Aside0.mk H
              clear H
              have hnb23 := NB271_279.out
              have hnc23 := NB279_271.out
              have hcz24_0 : w18.cell? ⟨gb271, 0, none⟩ = some (.int .i64 t264) := (blk_cell BK271.out 0).trans rfl
              have hcz24_1 : w18.cell? ⟨gb271, 1, none⟩ = some (.int .i64 t265) := (blk_cell BK271.out 1).trans rfl
              have hcz24_2 : w18.cell? ⟨gb271, 2, none⟩ = some (.int .i64 t266) := (blk_cell BK271.out 2).trans rfl
              have hcz24_3 : w18.cell? ⟨gb271, 3, none⟩ = some (.int .i64 t267) := (blk_cell BK271.out 3).trans rfl
              have hcz24_4 : w18.cell? ⟨gb271, 4, none⟩ = some (.int .i64 t268) := (blk_cell BK271.out 4).trans rfl
              have hcz24_5 : w18.cell? ⟨gb271, 5, none⟩ = some (.int .i64 t269) := (blk_cell BK271.out 5).trans rfl
              have hcz24_6 : w18.cell? ⟨gb271, 6, none⟩ = some (.int .i64 t270) := (blk_cell BK271.out 6).trans rfl
              have hfz24_0 := blk_frozen BK271.out 0
              have hfz24_1 := blk_frozen BK271.out 1
              have hfz24_2 := blk_frozen BK271.out 2
              have hfz24_3 := blk_frozen BK271.out 3
              have hfz24_4 := blk_frozen BK271.out 4
              have hfz24_5 := blk_frozen BK271.out 5
              have hfz24_6 := blk_frozen BK271.out 6
              go_wp2
              go_meet
              case rel => exact ⟨_, (true), (by first | rfl | (simp; done) | (simp [*]; done)), H', ⟨by have := HJ1.out; first | omega | exact Nat.le_refl _⟩, ⟨by (with_reducible repeat (first | refine blk_drewN ?_ _ | refine blk_drew ?_ | refine blk_alloc ?_ _)); refine blk_far ?_ NB271_279.out _; (with_reducible repeat (first | refine blk_drewN ?_ _ | refine blk_drew ?_ | refine blk_alloc ?_ _)); refine blk_far ?_ NB271_279.out _; (with_reducible repeat (first | refine blk_drewN ?_ _ | refine blk_drew ?_ | refine blk_alloc ?_ _)); refine blk_far ?_ NB271_279.out _; (with_reducible repeat (first | refine blk_drewN ?_ _ | refine blk_drew ?_ | refine blk_alloc ?_ _)); refine blk_far ?_ NB271_279.out _; (with_reducible repeat (first | refine blk_drewN ?_ _ | refine blk_drew ?_ | refine blk_alloc ?_ _)); refine blk_far ?_ NB271_279.out _; (with_reducible repeat (first | refine blk_drewN ?_ _ | refine blk_drew ?_ | refine blk_alloc ?_ _)); refine blk_far ?_ NB271_279.out _; (with_reducible repeat (first | refine blk_drewN ?_ _ | refine blk_drew ?_ | refine blk_alloc ?_ _)); refine blk_far ?_ NB271_279.out _; (with_reducible repeat (first | refine blk_drewN ?_ _ | refine blk_drew ?_ | refine blk_alloc ?_ _)); exact BK271.out⟩, ⟨by (with_reducible repeat (first | refine blk_drewN ?_ _ | refine blk_drew ?_ | refine blk_alloc ?_ _)); refine blk_put (cs := #[.int .i64 t272, .int .i64 t273, .int .i64 t274, .int .i64 t275, .int .i64 t276, .int .i64 t277, .int .i64 0]) ?_ 6 _ rfl; (with_reducible repeat (first | refine blk_drewN ?_ _ | refine blk_drew ?_ | refine blk_alloc ?_ _)); refine blk_put (cs := #[.int .i64 t272, .int .i64 t273, .int .i64 t274, .int .i64 t275, .int .i64 t276, .int .i64 0, .int .i64 0]) ?_ 5 _ rfl; (with_reducible repeat (first | refine blk_drewN ?_ _ | refine blk_drew ?_ | refine blk_alloc ?_ _)); refine blk_put (cs := #[.int .i64 t272, .int .i64 t273, .int .i64 t274, .int .i64 t275, .int .i64 0, .int .i64 0, .int .i64 0]) ?_ 4 _ rfl; (with_reducible repeat (first | refine blk_drewN ?_ _ | refine blk_drew ?_ | refine blk_alloc ?_ _)); refine blk_put (cs := #[.int .i64 t272, .int .i64 t273, .int .i64 t274, .int .i64 0, .int .i64 0, .int .i64 0, .int .i64 0]) ?_ 3 _ rfl; (with_reducible repeat (first | refine blk_drewN ?_ _ | refine blk_drew ?_ | refine blk_alloc ?_ _)); refine blk_put (cs := #[.int .i64 t272, .int .i64 t273, .int .i64 0, .int .i64 0, .int .i64 0, .int .i64 0, .int .i64 0]) ?_ 2 _ rfl; (with_reducible repeat (first | refine blk_drewN ?_ _ | refine blk_drew ?_ | refine blk_alloc ?_ _)); refine blk_put (cs := #[.int .i64 t272, .int .i64 0, .int .i64 0, .int .i64 0, .int .i64 0, .int .i64 0, .int .i64 0]) ?_ 1 _ rfl; (with_reducible repeat (first | refine blk_drewN ?_ _ | refine blk_drew ?_ | refine blk_alloc ?_ _)); refine blk_put (cs := #[.int .i64 0, .int .i64 0, .int .i64 0, .int .i64 0, .int .i64 0, .int .i64 0, .int .i64 0]) ?_ 0 _ rfl; (with_reducible repeat (first | refine blk_drewN ?_ _ | refine blk_drew ?_ | refine blk_alloc ?_ _)); exact BK279.out⟩, ⟨by repeat (first | (with_reducible first | exact HB.out | apply below_alloc | apply pw_below_drewN | apply below_drew1 | refine below_set ?_ GE271.out | refine below_set ?_ GE279.out) | exact HB.out)⟩⟩
            · rw [if_neg c22] at H
              have c22b0 : decide (t267 < 0) = false := decide_eq_false c22
              clear c22
              by_cases c25 : t267 > 23
              · rw [if_pos c25] at H
                have c25b0 : decide (23 < t267) = true := decide_eq_true c25
                clear c25
                have H' := Aside0.mk H
                clear H
                have hnb26 := NB271_279.out
                have hnc26 := NB279_271.out
                have hcz27_0 : w18.cell? ⟨gb271, 0, none⟩ = some (.int .i64 t264) := (blk_cell BK271.out 0).trans rfl
                have hcz27_1 : w18.cell? ⟨gb271, 1, none⟩ = some (.int .i64 t265) := (blk_cell BK271.out 1).trans rfl
                have hcz27_2 : w18.cell? ⟨gb271, 2, none⟩ = some (.int .i64 t266) := (blk_cell BK271.out 2).trans rfl
                have hcz27_3 : w18.cell? ⟨gb271, 3, none⟩ = some (.int .i64 t267) := (blk_cell BK271.out 3).trans rfl
                have hcz27_4 : w18.cell? ⟨gb271, 4, none⟩ = some (.int .i64 t268) := (blk_cell BK271.out 4).trans rfl
                have hcz27_5 : w18.cell? ⟨gb271, 5, none⟩ = some (.int .i64 t269) := (blk_cell BK271.out 5).trans rfl
                have hcz27_6 : w18.cell? ⟨gb271, 6, none⟩ = some (.int .i64 t270) := (blk_cell BK271.out 6).trans rfl
                have hfz27_0 := blk_frozen BK271.out 0
                have hfz27_1 := blk_frozen BK271.out 1
                have hfz27_2 := blk_frozen BK271.out 2
                have hfz27_3 := blk_frozen BK271.out 3
                have hfz27_4 := blk_frozen BK271.out 4
                have hfz27_5 := blk_frozen BK271.out 5
                have hfz27_6 := blk_frozen BK271.out 6
                go_wp2
                go_meet
                case rel => exact ⟨_, (true), (by first | rfl | (simp; done) | (simp [*]; done)), H', ⟨by have := HJ1.out; first | omega | exact Nat.le_refl _⟩, ⟨by (with_reducible repeat (first | refine blk_drewN ?_ _ | refine blk_drew ?_ | refine blk_alloc ?_ _)); refine blk_far ?_ NB271_279.out _; (with_reducible repeat (first | refine blk_drewN ?_ _ | refine blk_drew ?_ | refine blk_alloc ?_ _)); refine blk_far ?_ NB271_279.out _; (with_reducible repeat (first | refine blk_drewN ?_ _ | refine blk_drew ?_ | refine blk_alloc ?_ _)); refine blk_far ?_ NB271_279.out _; (with_reducible repeat (first | refine blk_drewN ?_ _ | refine blk_drew ?_ | refine blk_alloc ?_ _)); refine blk_far ?_ NB271_279.out _; (with_reducible repeat (first | refine blk_drewN ?_ _ | refine blk_drew ?_ | refine blk_alloc ?_ _)); refine blk_far ?_ NB271_279.out _; (with_reducible repeat (first | refine blk_drewN ?_ _ | refine blk_drew ?_ | refine blk_alloc ?_ _)); refine blk_far ?_ NB271_279.out _; (with_reducible repeat (first | refine blk_drewN ?_ _ | refine blk_drew ?_ | refine blk_alloc ?_ _)); refine blk_far ?_ NB271_279.out _; (with_reducible repeat (first | refine blk_drewN ?_ _ | refine blk_drew ?_ | refine blk_alloc ?_ _)); exact BK271.out⟩, ⟨by (with_reducible repeat (first | refine blk_drewN ?_ _ | refine blk_drew ?_ | refine blk_alloc ?_ _)); refine blk_put (cs := #[.int .i64 t272, .int .i64 t273, .int .i64 t274, .int .i64 t275, .int .i64 t276, .int .i64 t277, .int .i64 0]) ?_ 6 _ rfl; (with_reducible repeat (first | refine blk_drewN ?_ _ | refine blk_drew ?_ | refine blk_alloc ?_ _)); refine blk_put (cs := #[.int .i64 t272, .int .i64 t273, .int .i64 t274, .int .i64 t275, .int .i64 t276, .int .i64 0, .int .i64 0]) ?_ 5 _ rfl; (with_reducible repeat (first | refine blk_drewN ?_ _ | refine blk_drew ?_ | refine blk_alloc ?_ _)); refine blk_put (cs := #[.int .i64 t272, .int .i64 t273, .int .i64 t274, .int .i64 t275, .int .i64 0, .int .i64 0, .int .i64 0]) ?_ 4 _ rfl; (with_reducible repeat (first | refine blk_drewN ?_ _ | refine blk_drew ?_ | refine blk_alloc ?_ _)); refine blk_put (cs := #[.int .i64 t272, .int .i64 t273, .int .i64 t274, .int .i64 0, .int .i64 0, .int .i64 0, .int .i64 0]) ?_ 3 _ rfl; (with_reducible repeat (first | refine blk_drewN ?_ _ | refine blk_drew ?_ | refine blk_alloc ?_ _)); refine blk_put (cs := #[.int .i64 t272, .int .i64 t273, .int .i64 0, .int .i64 0, .int .i64 0, .int .i64 0, .int .i64 0]) ?_ 2 _ rfl; (with_reducible repeat (first | refine blk_drewN ?_ _ | refine blk_drew ?_ | refine blk_alloc ?_ _)); refine blk_put (cs := #[.int .i64 t272, .int .i64 0, .int .i64 0, .int .i64 0, .int .i64 0, .int .i64 0, .int .i64 0]) ?_ 1 _ rfl; (with_reducible repeat (first | refine blk_drewN ?_ _ | refine blk_drew ?_ | refine blk_alloc ?_ _)); refine blk_put (cs := #[.int .i64 0, .int .i64 0, .int .i64 0, .int .i64 0, .int .i64 0, .int .i64 0, .int .i64 0]) ?_ 0 _ rfl; (with_reducible repeat (first | refine blk_drewN ?_ _ | refine blk_drew ?_ | refine blk_alloc ?_ _)); exact BK279.out⟩, ⟨by repeat (first | (with_reducible first | exact HB.out | apply below_alloc | apply pw_below_drewN | apply below_drew1 | refine below_set ?_ GE271.out | refine below_set ?_ GE279.out) | exact HB.out)⟩⟩
              · rw [if_neg c25] at H
                have c25b0 : decide (23 < t267) = false := decide_eq_false c25
                clear c25
                by_cases c28 : t268 < 0
                · rw [if_pos c28] at H
                  have c28b0 : decide (t268 < 0) = true := decide_eq_true c28
                  clear c28
                  have H' := Aside0.mk H
                  clear H
                  have hnb29 := NB271_279.out
                  have hnc29 := NB279_271.out
                  have hcz30_0 : w18.cell? ⟨gb271, 0, none⟩ = some (.int .i64 t264) := (blk_cell BK271.out 0).trans rfl
                  have hcz30_1 : w18.cell? ⟨gb271, 1, none⟩ = some (.int .i64 t265) := (blk_cell BK271.out 1).trans rfl
                  have hcz30_2 : w18.cell? ⟨gb271, 2, none⟩ = some (.int .i64 t266) := (blk_cell BK271.out 2).trans rfl
                  have hcz30_3 : w18.cell? ⟨gb271, 3, none⟩ = some (.int .i64 t267) := (blk_cell BK271.out 3).trans rfl
                  have hcz30_4 : w18.cell? ⟨gb271, 4, none⟩ = some (.int .i64 t268) := (blk_cell BK271.out 4).trans rfl
                  have hcz30_5 : w18.cell? ⟨gb271, 5, none⟩ = some (.int .i64 t269) := (blk_cell BK271.out 5).trans rfl
                  have hcz30_6 : w18.cell? ⟨gb271, 6, none⟩ = some (.int .i64 t270) := (blk_cell BK271.out 6).trans rfl
                  have hfz30_0 := blk_frozen BK271.out 0
                  have hfz30_1 := blk_frozen BK271.out 1
                  have hfz30_2 := blk_frozen BK271.out 2
                  have hfz30_3 := blk_frozen BK271.out 3
                  have hfz30_4 := blk_frozen BK271.out 4
                  have hfz30_5 := blk_frozen BK271.out 5
                  have hfz30_6 := blk_frozen BK271.out 6
                  go_wp2
                  go_meet
                  case rel => exact ⟨_, (true), (by first | rfl | (simp; done) | (simp [*]; done)), H', ⟨by have := HJ1.out; first | omega | exact Nat.le_refl _⟩, ⟨by (with_reducible repeat (first | refine blk_drewN ?_ _ | refine blk_drew ?_ | refine blk_alloc ?_ _)); refine blk_far ?_ NB271_279.out _; (with_reducible repeat (first | refine blk_drewN ?_ _ | refine blk_drew ?_ | refine blk_alloc ?_ _)); refine blk_far ?_ NB271_279.out _; (with_reducible repeat (first | refine blk_drewN ?_ _ | refine blk_drew ?_ | refine blk_alloc ?_ _)); refine blk_far ?_ NB271_279.out _; (with_reducible repeat (first | refine blk_drewN ?_ _ | refine blk_drew ?_ | refine blk_alloc ?_ _)); refine blk_far ?_ NB271_279.out _; (with_reducible repeat (first | refine blk_drewN ?_ _ | refine blk_drew ?_ | refine blk_alloc ?_ _)); refine blk_far ?_ NB271_279.out _; (with_reducible repeat (first | refine blk_drewN ?_ _ | refine blk_drew ?_ | refine blk_alloc ?_ _)); refine blk_far ?_ NB271_279.out _; (with_reducible repeat (first | refine blk_drewN ?_ _ | refine blk_drew ?_ | refine blk_alloc ?_ _)); refine blk_far ?_ NB271_279.out _; (with_reducible repeat (first | refine blk_drewN ?_ _ | refine blk_drew ?_ | refine blk_alloc ?_ _)); exact BK271.out⟩, ⟨by (with_reducible repeat (first | refine blk_drewN ?_ _ | refine blk_drew ?_ | refine blk_alloc ?_ _)); refine blk_put (cs := #[.int .i64 t272, .int .i64 t273, .int .i64 t274, .int .i64 t275, .int .i64 t276, .int .i64 t277, .int .i64 0]) ?_ 6 _ rfl; (with_reducible repeat (first | refine blk_drewN ?_ _ | refine blk_drew ?_ | refine blk_alloc ?_ _)); refine blk_put (cs := #[.int .i64 t272, .int .i64 t273, .int .i64 t274, .int .i64 t275, .int .i64 t276, .int .i64 0, .int .i64 0]) ?_ 5 _ rfl; (with_reducible repeat (first | refine blk_drewN ?_ _ | refine blk_drew ?_ | refine blk_alloc ?_ _)); refine blk_put (cs := #[.int .i64 t272, .int .i64 t273, .int .i64 t274, .int .i64 t275, .int .i64 0, .int .i64 0, .int .i64 0]) ?_ 4 _ rfl; (with_reducible repeat (first | refine blk_drewN ?_ _ | refine blk_drew ?_ | refine blk_alloc ?_ _)); refine blk_put (cs := #[.int .i64 t272, .int .i64 t273, .int .i64 t274, .int .i64 0, .int .i64 0, .int .i64 0, .int .i64 0]) ?_ 3 _ rfl; (with_reducible repeat (first | refine blk_drewN ?_ _ | refine blk_drew ?_ | refine blk_alloc ?_ _)); refine blk_put (cs := #[.int .i64 t272, .int .i64 t273, .int .i64 0, .int .i64 0, .int .i64 0, .int .i64 0, .int .i64 0]) ?_ 2 _ rfl; (with_reducible repeat (first | refine blk_drewN ?_ _ | refine blk_drew ?_ | refine blk_alloc ?_ _)); refine blk_put (cs := #[.int .i64 t272, .int .i64 0, .int .i64 0, .int .i64 0, .int .i64 0, .int .i64 0, .int .i64 0]) ?_ 1 _ rfl; (with_reducible repeat (first | refine blk_drewN ?_ _ | refine blk_drew ?_ | refine blk_alloc ?_ _)); refine blk_put (cs := #[.int .i64 0, .int .i64 0, .int .i64 0, .int .i64 0, .int .i64 0, .int .i64 0, .int .i64 0]) ?_ 0 _ rfl; (with_reducible repeat (first | refine blk_drewN ?_ _ | refine blk_drew ?_ | refine blk_alloc ?_ _)); exact BK279.out⟩, ⟨by repeat (first | (with_reducible first | exact HB.out | apply below_alloc | apply pw_below_drewN | apply below_drew1 | refine below_set ?_ GE271.out | refine below_set ?_ GE279.out) | exact HB.out)⟩⟩
                · rw [if_neg c28] at H
                  have c28b0 : decide (t268 < 0) = false := decide_eq_false c28
                  clear c28
                  by_cases c31 : t268 > 59
                  · rw [if_pos c31] at H
                    have c31b0 : decide (59 < t268) = true := decide_eq_true c31
                    clear c31
                    have H' := Aside0.mk H
                    clear H
                    have hnb32 := NB271_279.out
                    have hnc32 := NB279_271.out
                    have hcz33_0 : w18.cell? ⟨gb271, 0, none⟩ = some (.int .i64 t264) := (blk_cell BK271.out 0).trans rfl
                    have hcz33_1 : w18.cell? ⟨gb271, 1, none⟩ = some (.int .i64 t265) := (blk_cell BK271.out 1).trans rfl
                    have hcz33_2 : w18.cell? ⟨gb271, 2, none⟩ = some (.int .i64 t266) := (blk_cell BK271.out 2).trans rfl
                    have hcz33_3 : w18.cell? ⟨gb271, 3, none⟩ = some (.int .i64 t267) := (blk_cell BK271.out 3).trans rfl
                    have hcz33_4 : w18.cell? ⟨gb271, 4, none⟩ = some (.int .i64 t268) := (blk_cell BK271.out 4).trans rfl
                    have hcz33_5 : w18.cell? ⟨gb271, 5, none⟩ = some (.int .i64 t269) := (blk_cell BK271.out 5).trans rfl
                    have hcz33_6 : w18.cell? ⟨gb271, 6, none⟩ = some (.int .i64 t270) := (blk_cell BK271.out 6).trans rfl
                    have hfz33_0 := blk_frozen BK271.out 0
                    have hfz33_1 := blk_frozen BK271.out 1
                    have hfz33_2 := blk_frozen BK271.out 2
                    have hfz33_3 := blk_frozen BK271.out 3
                    have hfz33_4 := blk_frozen BK271.out 4
                    have hfz33_5 := blk_frozen BK271.out 5
                    have hfz33_6 := blk_frozen BK271.out 6
                    go_wp2
                    go_meet
                    case rel => exact ⟨_, (true), (by first | rfl | (simp; done) | (simp [*]; done)), H', ⟨by have := HJ1.out; first | omega | exact Nat.le_refl _⟩, ⟨by (with_reducible repeat (first | refine blk_drewN ?_ _ | refine blk_drew ?_ | refine blk_alloc ?_ _)); refine blk_far ?_ NB271_279.out _; (with_reducible repeat (first | refine blk_drewN ?_ _ | refine blk_drew ?_ | refine blk_alloc ?_ _)); refine blk_far ?_ NB271_279.out _; (with_reducible repeat (first | refine blk_drewN ?_ _ | refine blk_drew ?_ | refine blk_alloc ?_ _)); refine blk_far ?_ NB271_279.out _; (with_reducible repeat (first | refine blk_drewN ?_ _ | refine blk_drew ?_ | refine blk_alloc ?_ _)); refine blk_far ?_ NB271_279.out _; (with_reducible repeat (first | refine blk_drewN ?_ _ | refine blk_drew ?_ | refine blk_alloc ?_ _)); refine blk_far ?_ NB271_279.out _; (with_reducible repeat (first | refine blk_drewN ?_ _ | refine blk_drew ?_ | refine blk_alloc ?_ _)); refine blk_far ?_ NB271_279.out _; (with_reducible repeat (first | refine blk_drewN ?_ _ | refine blk_drew ?_ | refine blk_alloc ?_ _)); refine blk_far ?_ NB271_279.out _; (with_reducible repeat (first | refine blk_drewN ?_ _ | refine blk_drew ?_ | refine blk_alloc ?_ _)); exact BK271.out⟩, ⟨by (with_reducible repeat (first | refine blk_drewN ?_ _ | refine blk_drew ?_ | refine blk_alloc ?_ _)); refine blk_put (cs := #[.int .i64 t272, .int .i64 t273, .int .i64 t274, .int .i64 t275, .int .i64 t276, .int .i64 t277, .int .i64 0]) ?_ 6 _ rfl; (with_reducible repeat (first | refine blk_drewN ?_ _ | refine blk_drew ?_ | refine blk_alloc ?_ _)); refine blk_put (cs := #[.int .i64 t272, .int .i64 t273, .int .i64 t274, .int .i64 t275, .int .i64 t276, .int .i64 0, .int .i64 0]) ?_ 5 _ rfl; (with_reducible repeat (first | refine blk_drewN ?_ _ | refine blk_drew ?_ | refine blk_alloc ?_ _)); refine blk_put (cs := #[.int .i64 t272, .int .i64 t273, .int .i64 t274, .int .i64 t275, .int .i64 0, .int .i64 0, .int .i64 0]) ?_ 4 _ rfl; (with_reducible repeat (first | refine blk_drewN ?_ _ | refine blk_drew ?_ | refine blk_alloc ?_ _)); refine blk_put (cs := #[.int .i64 t272, .int .i64 t273, .int .i64 t274, .int .i64 0, .int .i64 0, .int .i64 0, .int .i64 0]) ?_ 3 _ rfl; (with_reducible repeat (first | refine blk_drewN ?_ _ | refine blk_drew ?_ | refine blk_alloc ?_ _)); refine blk_put (cs := #[.int .i64 t272, .int .i64 t273, .int .i64 0, .int .i64 0, .int .i64 0, .int .i64 0, .int .i64 0]) ?_ 2 _ rfl; (with_reducible repeat (first | refine blk_drewN ?_ _ | refine blk_drew ?_ | refine blk_alloc ?_ _)); refine blk_put (cs := #[.int .i64 t272, .int .i64 0, .int .i64 0, .int .i64 0, .int .i64 0, .int .i64 0, .int .i64 0]) ?_ 1 _ rfl; (with_reducible repeat (first | refine blk_drewN ?_ _ | refine blk_drew ?_ | refine blk_alloc ?_ _)); refine blk_put (cs := #[.int .i64 0, .int .i64 0, .int .i64 0, .int .i64 0, .int .i64 0, .int .i64 0, .int .i64 0]) ?_ 0 _ rfl; (with_reducible repeat (first | refine blk_drewN ?_ _ | refine blk_drew ?_ | refine blk_alloc ?_ _)); exact BK279.out⟩, ⟨by repeat (first | (with_reducible first | exact HB.out | apply below_alloc | apply pw_below_drewN | apply below_drew1 | refine below_set ?_ GE271.out | refine below_set ?_ GE279.out) | exact HB.out)⟩⟩
                  · rw [if_neg c31] at H
                    have c31b0 : decide (59 < t268) = false := decide_eq_false c31
                    clear c31
                    by_cases c34 : t269 < 0
                    · rw [if_pos c34] at H
                      have c34b0 : decide (t269 < 0) = true := decide_eq_true c34
                      clear c34
                      have H' := Aside0.mk H
                      clear H
                      have hnb35 := NB271_279.out
                      have hnc35 := NB279_271.out
                      have hcz36_0 : w18.cell? ⟨gb271, 0, none⟩ = some (.int .i64 t264) := (blk_cell BK271.out 0).trans rfl
                      have hcz36_1 : w18.cell? ⟨gb271, 1, none⟩ = some (.int .i64 t265) := (blk_cell BK271.out 1).trans rfl
                      have hcz36_2 : w18.cell? ⟨gb271, 2, none⟩ = some (.int .i64 t266) := (blk_cell BK271.out 2).trans rfl
                      have hcz36_3 : w18.cell? ⟨gb271, 3, none⟩ = some (.int .i64 t267) := (blk_cell BK271.out 3).trans rfl
                      have hcz36_4 : w18.cell? ⟨gb271, 4, none⟩ = some (.int .i64 t268) := (blk_cell BK271.out 4).trans rfl
                      have hcz36_5 : w18.cell? ⟨gb271, 5, none⟩ = some (.int .i64 t269) := (blk_cell BK271.out 5).trans rfl
                      have hcz36_6 : w18.cell? ⟨gb271, 6, none⟩ = some (.int .i64 t270) := (blk_cell BK271.out 6).trans rfl
                      have hfz36_0 := blk_frozen BK271.out 0
                      have hfz36_1 := blk_frozen BK271.out 1
                      have hfz36_2 := blk_frozen BK271.out 2
                      have hfz36_3 := blk_frozen BK271.out 3
                      have hfz36_4 := blk_frozen BK271.out 4
                      have hfz36_5 := blk_frozen BK271.out 5
                      have hfz36_6 := blk_frozen BK271.out 6
                      go_wp2
                      go_meet
                      case rel => exact ⟨_, (true), (by first | rfl | (simp; done) | (simp [*]; done)), H', ⟨by have := HJ1.out; first | omega | exact Nat.le_refl _⟩, ⟨by (with_reducible repeat (first | refine blk_drewN ?_ _ | refine blk_drew ?_ | refine blk_alloc ?_ _)); refine blk_far ?_ NB271_279.out _; (with_reducible repeat (first | refine blk_drewN ?_ _ | refine blk_drew ?_ | refine blk_alloc ?_ _)); refine blk_far ?_ NB271_279.out _; (with_reducible repeat (first | refine blk_drewN ?_ _ | refine blk_drew ?_ | refine blk_alloc ?_ _)); refine blk_far ?_ NB271_279.out _; (with_reducible repeat (first | refine blk_drewN ?_ _ | refine blk_drew ?_ | refine blk_alloc ?_ _)); refine blk_far ?_ NB271_279.out _; (with_reducible repeat (first | refine blk_drewN ?_ _ | refine blk_drew ?_ | refine blk_alloc ?_ _)); refine blk_far ?_ NB271_279.out _; (with_reducible repeat (first | refine blk_drewN ?_ _ | refine blk_drew ?_ | refine blk_alloc ?_ _)); refine blk_far ?_ NB271_279.out _; (with_reducible repeat (first | refine blk_drewN ?_ _ | refine blk_drew ?_ | refine blk_alloc ?_ _)); refine blk_far ?_ NB271_279.out _; (with_reducible repeat (first | refine blk_drewN ?_ _ | refine blk_drew ?_ | refine blk_alloc ?_ _)); exact BK271.out⟩, ⟨by (with_reducible repeat (first | refine blk_drewN ?_ _ | refine blk_drew ?_ | refine blk_alloc ?_ _)); refine blk_put (cs := #[.int .i64 t272, .int .i64 t273, .int .i64 t274, .int .i64 t275, .int .i64 t276, .int .i64 t277, .int .i64 0]) ?_ 6 _ rfl; (with_reducible repeat (first | refine blk_drewN ?_ _ | refine blk_drew ?_ | refine blk_alloc ?_ _)); refine blk_put (cs := #[.int .i64 t272, .int .i64 t273, .int .i64 t274, .int .i64 t275, .int .i64 t276, .int .i64 0, .int .i64 0]) ?_ 5 _ rfl; (with_reducible repeat (first | refine blk_drewN ?_ _ | refine blk_drew ?_ | refine blk_alloc ?_ _)); refine blk_put (cs := #[.int .i64 t272, .int .i64 t273, .int .i64 t274, .int .i64 t275, .int .i64 0, .int .i64 0, .int .i64 0]) ?_ 4 _ rfl; (with_reducible repeat (first | refine blk_drewN ?_ _ | refine blk_drew ?_ | refine blk_alloc ?_ _)); refine blk_put (cs := #[.int .i64 t272, .int .i64 t273, .int .i64 t274, .int .i64 0, .int .i64 0, .int .i64 0, .int .i64 0]) ?_ 3 _ rfl; (with_reducible repeat (first | refine blk_drewN ?_ _ | refine blk_drew ?_ | refine blk_alloc ?_ _)); refine blk_put (cs := #[.int .i64 t272, .int .i64 t273, .int .i64 0, .int .i64 0, .int .i64 0, .int .i64 0, .int .i64 0]) ?_ 2 _ rfl; (with_reducible repeat (first | refine blk_drewN ?_ _ | refine blk_drew ?_ | refine blk_alloc ?_ _)); refine blk_put (cs := #[.int .i64 t272, .int .i64 0, .int .i64 0, .int .i64 0, .int .i64 0, .int .i64 0, .int .i64 0]) ?_ 1 _ rfl; (with_reducible repeat (first | refine blk_drewN ?_ _ | refine blk_drew ?_ | refine blk_alloc ?_ _)); refine blk_put (cs := #[.int .i64 0, .int .i64 0, .int .i64 0, .int .i64 0, .int .i64 0, .int .i64 0, .int .i64 0]) ?_ 0 _ rfl; (with_reducible repeat (first | refine blk_drewN ?_ _ | refine blk_drew ?_ | refine blk_alloc ?_ _)); exact BK279.out⟩, ⟨by repeat (first | (with_reducible first | exact HB.out | apply below_alloc | apply pw_below_drewN | apply below_drew1 | refine below_set ?_ GE271.out | refine below_set ?_ GE279.out) | exact HB.out)⟩⟩
                    · rw [if_neg c34] at H
                      have c34b0 : decide (t269 < 0) = false := decide_eq_false c34
                      clear c34
                      have H' := Aside0.mk H
                      clear H
                      have hnb37 := NB271_279.out
                      have hnc37 := NB279_271.out
                      have hcz38_0 : w18.cell? ⟨gb271, 0, none⟩ = some (.int .i64 t264) := (blk_cell BK271.out 0).trans rfl
                      have hcz38_1 : w18.cell? ⟨gb271, 1, none⟩ = some (.int .i64 t265) := (blk_cell BK271.out 1).trans rfl
                      have hcz38_2 : w18.cell? ⟨gb271, 2, none⟩ = some (.int .i64 t266) := (blk_cell BK271.out 2).trans rfl
                      have hcz38_3 : w18.cell? ⟨gb271, 3, none⟩ = some (.int .i64 t267) := (blk_cell BK271.out 3).trans rfl
                      have hcz38_4 : w18.cell? ⟨gb271, 4, none⟩ = some (.int .i64 t268) := (blk_cell BK271.out 4).trans rfl
                      have hcz38_5 : w18.cell? ⟨gb271, 5, none⟩ = some (.int .i64 t269) := (blk_cell BK271.out 5).trans rfl
                      have hcz38_6 : w18.cell? ⟨gb271, 6, none⟩ = some (.int .i64 t270) := (blk_cell BK271.out 6).trans rfl
                      have hfz38_0 := blk_frozen BK271.out 0
                      have hfz38_1 := blk_frozen BK271.out 1
                      have hfz38_2 := blk_frozen BK271.out 2
                      have hfz38_3 := blk_frozen BK271.out 3
                      have hfz38_4 := blk_frozen BK271.out 4
                      have hfz38_5 := blk_frozen BK271.out 5
                      have hfz38_6 := blk_frozen BK271.out 6
                      go_wp2
                      go_meet
                      case rel => exact ⟨_, (decide (t269 > 59)), (by first | rfl | (simp; done) | (simp [*]; done)), H', ⟨by have := HJ1.out; first | omega | exact Nat.le_refl _⟩, ⟨by (with_reducible repeat (first | refine blk_drewN ?_ _ | refine blk_drew ?_ | refine blk_alloc ?_ _)); refine blk_far ?_ NB271_279.out _; (with_reducible repeat (first | refine blk_drewN ?_ _ | refine blk_drew ?_ | refine blk_alloc ?_ _)); refine blk_far ?_ NB271_279.out _; (with_reducible repeat (first | refine blk_drewN ?_ _ | refine blk_drew ?_ | refine blk_alloc ?_ _)); refine blk_far ?_ NB271_279.out _; (with_reducible repeat (first | refine blk_drewN ?_ _ | refine blk_drew ?_ | refine blk_alloc ?_ _)); refine blk_far ?_ NB271_279.out _; (with_reducible repeat (first | refine blk_drewN ?_ _ | refine blk_drew ?_ | refine blk_alloc ?_ _)); refine blk_far ?_ NB271_279.out _; (with_reducible repeat (first | refine blk_drewN ?_ _ | refine blk_drew ?_ | refine blk_alloc ?_ _)); refine blk_far ?_ NB271_279.out _; (with_reducible repeat (first | refine blk_drewN ?_ _ | refine blk_drew ?_ | refine blk_alloc ?_ _)); refine blk_far ?_ NB271_279.out _; (with_reducible repeat (first | refine blk_drewN ?_ _ | refine blk_drew ?_ | refine blk_alloc ?_ _)); exact BK271.out⟩, ⟨by (with_reducible repeat (first | refine blk_drewN ?_ _ | refine blk_drew ?_ | refine blk_alloc ?_ _)); refine blk_put (cs := #[.int .i64 t272, .int .i64 t273, .int .i64 t274, .int .i64 t275, .int .i64 t276, .int .i64 t277, .int .i64 0]) ?_ 6 _ rfl; (with_reducible repeat (first | refine blk_drewN ?_ _ | refine blk_drew ?_ | refine blk_alloc ?_ _)); refine blk_put (cs := #[.int .i64 t272, .int .i64 t273, .int .i64 t274, .int .i64 t275, .int .i64 t276, .int .i64 0, .int .i64 0]) ?_ 5 _ rfl; (with_reducible repeat (first | refine blk_drewN ?_ _ | refine blk_drew ?_ | refine blk_alloc ?_ _)); refine blk_put (cs := #[.int .i64 t272, .int .i64 t273, .int .i64 t274, .int .i64 t275, .int .i64 0, .int .i64 0, .int .i64 0]) ?_ 4 _ rfl; (with_reducible repeat (first | refine blk_drewN ?_ _ | refine blk_drew ?_ | refine blk_alloc ?_ _)); refine blk_put (cs := #[.int .i64 t272, .int .i64 t273, .int .i64 t274, .int .i64 0, .int .i64 0, .int .i64 0, .int .i64 0]) ?_ 3 _ rfl; (with_reducible repeat (first | refine blk_drewN ?_ _ | refine blk_drew ?_ | refine blk_alloc ?_ _)); refine blk_put (cs := #[.int .i64 t272, .int .i64 t273, .int .i64 0, .int .i64 0, .int .i64 0, .int .i64 0, .int .i64 0]) ?_ 2 _ rfl; (with_reducible repeat (first | refine blk_drewN ?_ _ | refine blk_drew ?_ | refine blk_alloc ?_ _)); refine blk_put (cs := #[.int .i64 t272, .int .i64 0, .int .i64 0, .int .i64 0, .int .i64 0, .int .i64 0, .int .i64 0]) ?_ 1 _ rfl; (with_reducible repeat (first | refine blk_drewN ?_ _ | refine blk_drew ?_ | refine blk_alloc ?_ _)); refine blk_put (cs := #[.int .i64 0, .int .i64 0, .int .i64 0, .int .i64 0, .int .i64 0, .int .i64 0, .int .i64 0]) ?_ 0 _ rfl; (with_reducible repeat (first | refine blk_drewN ?_ _ | refine blk_drew ?_ | refine blk_alloc ?_ _)); exact BK279.out⟩, ⟨by repeat (first | (with_reducible first | exact HB.out | apply below_alloc | apply pw_below_drewN | apply below_drew1 | refine below_set ?_ GE271.out | refine below_set ?_ GE279.out) | exact HB.out)⟩⟩
          · rw [if_neg c21] at H
            have c21b0 : ((wrap64 ((wrap64 ((wrap64 (t267 * 3600)) + (wrap64 (t268 * 60)))) + t269)) == t281) = false := beq_eq_false_iff_ne.mpr c21
            have c21b1 : ((wrap64 ((wrap64 ((wrap64 (t267 * 3600)) + (wrap64 (t268 * 60)))) + t269)) != t281) = true := bne_iff_ne.mpr c21
            (first | rw [c21b0] | (simp only [i64_w, i32_w]; rw [c21b0]) | skip)
            have H' := Aside0.mk H
            clear H
            have hnb39 := NB271_279.out
            have hnc39 := NB279_271.out
            have hcz40_0 : w18.cell? ⟨gb271, 0, none⟩ = some (.int .i64 t264) := (blk_cell BK271.out 0).trans rfl
            have hcz40_1 : w18.cell? ⟨gb271, 1, none⟩ = some (.int .i64 t265) := (blk_cell BK271.out 1).trans rfl
            have hcz40_2 : w18.cell? ⟨gb271, 2, none⟩ = some (.int .i64 t266) := (blk_cell BK271.out 2).trans rfl
            have hcz40_3 : w18.cell? ⟨gb271, 3, none⟩ = some (.int .i64 t267) := (blk_cell BK271.out 3).trans rfl
            have hcz40_4 : w18.cell? ⟨gb271, 4, none⟩ = some (.int .i64 t268) := (blk_cell BK271.out 4).trans rfl
            have hcz40_5 : w18.cell? ⟨gb271, 5, none⟩ = some (.int .i64 t269) := (blk_cell BK271.out 5).trans rfl
            have hcz40_6 : w18.cell? ⟨gb271, 6, none⟩ = some (.int .i64 t270) := (blk_cell BK271.out 6).trans rfl
            have hfz40_0 := blk_frozen BK271.out 0
            have hfz40_1 := blk_frozen BK271.out 1
            have hfz40_2 := blk_frozen BK271.out 2
            have hfz40_3 := blk_frozen BK271.out 3
            have hfz40_4 := blk_frozen BK271.out 4
            have hfz40_5 := blk_frozen BK271.out 5
            have hfz40_6 := blk_frozen BK271.out 6
            go_wp2
            go_meet
            case rel => exact ⟨_, (true), (by first | rfl | (simp; done) | (simp [*]; done)), H', ⟨by have := HJ1.out; first | omega | exact Nat.le_refl _⟩, ⟨by (with_reducible repeat (first | refine blk_drewN ?_ _ | refine blk_drew ?_ | refine blk_alloc ?_ _)); refine blk_far ?_ NB271_279.out _; (with_reducible repeat (first | refine blk_drewN ?_ _ | refine blk_drew ?_ | refine blk_alloc ?_ _)); refine blk_far ?_ NB271_279.out _; (with_reducible repeat (first | refine blk_drewN ?_ _ | refine blk_drew ?_ | refine blk_alloc ?_ _)); refine blk_far ?_ NB271_279.out _; (with_reducible repeat (first | refine blk_drewN ?_ _ | refine blk_drew ?_ | refine blk_alloc ?_ _)); refine blk_far ?_ NB271_279.out _; (with_reducible repeat (first | refine blk_drewN ?_ _ | refine blk_drew ?_ | refine blk_alloc ?_ _)); refine blk_far ?_ NB271_279.out _; (with_reducible repeat (first | refine blk_drewN ?_ _ | refine blk_drew ?_ | refine blk_alloc ?_ _)); refine blk_far ?_ NB271_279.out _; (with_reducible repeat (first | refine blk_drewN ?_ _ | refine blk_drew ?_ | refine blk_alloc ?_ _)); refine blk_far ?_ NB271_279.out _; (with_reducible repeat (first | refine blk_drewN ?_ _ | refine blk_drew ?_ | refine blk_alloc ?_ _)); exact BK271.out⟩, ⟨by (with_reducible repeat (first | refine blk_drewN ?_ _ | refine blk_drew ?_ | refine blk_alloc ?_ _)); refine blk_put (cs := #[.int .i64 t272, .int .i64 t273, .int .i64 t274, .int .i64 t275, .int .i64 t276, .int .i64 t277, .int .i64 0]) ?_ 6 _ rfl; (with_reducible repeat (first | refine blk_drewN ?_ _ | refine blk_drew ?_ | refine blk_alloc ?_ _)); refine blk_put (cs := #[.int .i64 t272, .int .i64 t273, .int .i64 t274, .int .i64 t275, .int .i64 t276, .int .i64 0, .int .i64 0]) ?_ 5 _ rfl; (with_reducible repeat (first | refine blk_drewN ?_ _ | refine blk_drew ?_ | refine blk_alloc ?_ _)); refine blk_put (cs := #[.int .i64 t272, .int .i64 t273, .int .i64 t274, .int .i64 t275, .int .i64 0, .int .i64 0, .int .i64 0]) ?_ 4 _ rfl; (with_reducible repeat (first | refine blk_drewN ?_ _ | refine blk_drew ?_ | refine blk_alloc ?_ _)); refine blk_put (cs := #[.int .i64 t272, .int .i64 t273, .int .i64 t274, .int .i64 0, .int .i64 0, .int .i64 0, .int .i64 0]) ?_ 3 _ rfl; (with_reducible repeat (first | refine blk_drewN ?_ _ | refine blk_drew ?_ | refine blk_alloc ?_ _)); refine blk_put (cs := #[.int .i64 t272, .int .i64 t273, .int .i64 0, .int .i64 0, .int .i64 0, .int .i64 0, .int .i64 0]) ?_ 2 _ rfl; (with_reducible repeat (first | refine blk_drewN ?_ _ | refine blk_drew ?_ | refine blk_alloc ?_ _)); refine blk_put (cs := #[.int .i64 t272, .int .i64 0, .int .i64 0, .int .i64 0, .int .i64 0, .int .i64 0, .int .i64 0]) ?_ 1 _ rfl; (with_reducible repeat (first | refine blk_drewN ?_ _ | refine blk_drew ?_ | refine blk_alloc ?_ _)); refine blk_put (cs := #[.int .i64 0, .int .i64 0, .int .i64 0, .int .i64 0, .int .i64 0, .int .i64 0, .int .i64 0]) ?_ 0 _ rfl; (with_reducible repeat (first | refine blk_drewN ?_ _ | refine blk_drew ?_ | refine blk_alloc ?_ _)); exact BK279.out⟩, ⟨by repeat (first | (with_reducible first | exact HB.out | apply below_alloc | apply pw_below_drewN | apply below_drew1 | refine below_set ?_ GE271.out | refine below_set ?_ GE279.out) | exact HB.out)⟩⟩
        case rest =>
          clear HC13
          try clear c1
          try clear c2
          try clear p2
          try clear c3
          try clear c4
          try clear p6
          try clear c7
          try clear c8
          try clear c9
          try clear c13
          try clear c19
          try clear c21
          try clear c21b0
          try clear c21b1
          try clear c22
          try clear c22b0
          try clear c23
          try clear c25
          try clear c25b0
          try clear c26
          try clear c28
          try clear c28b0
          try clear c29
          try clear c31
          try clear c31b0
          try clear c32
          try clear c34
          try clear c34b0
          try clear c35
          try clear c37
          try clear c39
          try clear hcz16_0
          try clear hcz16_1
          try clear hcz16_2
          try clear hcz16_3
          try clear hcz16_4
          try clear hcz16_5
          try clear hcz16_6
          try clear hcz20_0
          try clear hcz20_1
          try clear hcz20_2
          try clear hcz20_3
          try clear hcz20_4
          try clear hcz20_5
          try clear hcz20_6
          try clear hcz24_0
          try clear hcz24_1
          try clear hcz24_2
          try clear hcz24_3
          try clear hcz24_4
          try clear hcz24_5
          try clear hcz24_6
          try clear hcz27_0
          try clear hcz27_1
          try clear hcz27_2
          try clear hcz27_3
          try clear hcz27_4
          try clear hcz27_5
          try clear hcz27_6
          try clear hcz30_0
          try clear hcz30_1
          try clear hcz30_2
          try clear hcz30_3
          try clear hcz30_4
          try clear hcz30_5
          try clear hcz30_6
          try clear hcz33_0
          try clear hcz33_1
          try clear hcz33_2
          try clear hcz33_3
          try clear hcz33_4
          try clear hcz33_5
          try clear hcz33_6
          try clear hcz36_0
          try clear hcz36_1
          try clear hcz36_2
          try clear hcz36_3
          try clear hcz36_4
          try clear hcz36_5
          try clear hcz36_6
          try clear hcz38_0
          try clear hcz38_1
          try clear hcz38_2
          try clear hcz38_3
          try clear hcz38_4
          try clear hcz38_5
          try clear hcz38_6
          try clear hcz40_0
          try clear hcz40_1
          try clear hcz40_2
          try clear hcz40_3
          try clear hcz40_4
          try clear hcz40_5
          try clear hcz40_6
          try clear hfz16_0
          try clear hfz16_1
          try clear hfz16_2
          try clear hfz16_3
          try clear hfz16_4
          try clear hfz16_5
          try clear hfz16_6
          try clear hfz20_0
          try clear hfz20_1
          try clear hfz20_2
          try clear hfz20_3
          try clear hfz20_4
          try clear hfz20_5
          try clear hfz20_6
          try clear hfz24_0
          try clear hfz24_1
          try clear hfz24_2
          try clear hfz24_3
          try clear hfz24_4
          try clear hfz24_5
          try clear hfz24_6
          try clear hfz27_0
          try clear hfz27_1
          try clear hfz27_2
          try clear hfz27_3
          try clear hfz27_4
          try clear hfz27_5
          try clear hfz27_6
          try clear hfz30_0
          try clear hfz30_1
          try clear hfz30_2
          try clear hfz30_3
          try clear hfz30_4
          try clear hfz30_5
          try clear hfz30_6
          try clear hfz33_0
          try clear hfz33_1
          try clear hfz33_2
          try clear hfz33_3
          try clear hfz33_4
          try clear hfz33_5
          try clear hfz33_6
          try clear hfz36_0
          try clear hfz36_1
          try clear hfz36_2
          try clear hfz36_3
          try clear hfz36_4
          try clear hfz36_5
          try clear hfz36_6
          try clear hfz38_0
          try clear hfz38_1
          try clear hfz38_2
          try clear hfz38_3
          try clear hfz38_4
          try clear hfz38_5
          try clear hfz38_6
          try clear hfz40_0
          try clear hfz40_1
          try clear hfz40_2
          try clear hfz40_3
          try clear hfz40_4
          try clear hfz40_5
          try clear hfz40_6
          try clear p2
          obtain ⟨kq, x67_12, rfl, HA, HJ12, BK271, BK279, HB⟩ := hcut
          cases kq with
          | zero => exact absurd HA.out (by simp [zoneinfolaw05_DatetimeFields.j1])
          | succ kj12 =>
            have H := HA.out
            clear HA
            simp only [zoneinfolaw05_DatetimeFields.j1] at H
            by_cases c41 : x67_12 = true
            · subst c41
              have H1 : (none) = some r := by rw [if_pos rfl] at H; exact H
              clear H
              have H := H1
              clear H1
              exact absurd H (by simp)
            · replace c41 := Bool.eq_false_iff.mpr c41
              subst c41
              have H1 : (if t269 < 59 then (zoneinfolaw05_DatetimeFields.j2 kj12 t272 t273 t274 t275 t276 t277 t278 t264 t265 t266 t267 t268 (wrap64 (t269 + 1)) t270) else (if t268 < 59 then (zoneinfolaw05_DatetimeFields.j3 kj12 t272 t273 t274 t275 t276 t277 t278 t264 t265 t266 t267 (wrap64 (t268 + 1)) 0 t270) else (if t277 = 0 then (if t276 = 0 then (if t275 = (wrap64 (t267 + 1)) then (some true) else (if t267 = 23 then (if t275 = 0 then (some (t278 == (Int.tmod (wrap64 (t270 + 1)) 7))) else (none)) else (none))) else (none)) else (none)))) = some r := by rw [if_neg (show ¬ (false = true) by decide)] at H; exact H
              clear H
              have H := H1
              clear H1
              by_cases c42 : t269 < 59
              · rw [if_pos c42] at H
                have c42b0 : decide (t269 < 59) = true := decide_eq_true c42
                clear c42
                have HC43 := Aside0.mk H
                clear H
                have hnb44 := NB271_279.out
                have hnc44 := NB279_271.out
                have hcz45_0 : wc.cell? ⟨gb271, 0, none⟩ = some (.int .i64 t264) := (blk_cell BK271.out 0).trans rfl
                have hcz45_1 : wc.cell? ⟨gb271, 1, none⟩ = some (.int .i64 t265) := (blk_cell BK271.out 1).trans rfl
                have hcz45_2 : wc.cell? ⟨gb271, 2, none⟩ = some (.int .i64 t266) := (blk_cell BK271.out 2).trans rfl
                have hcz45_3 : wc.cell? ⟨gb271, 3, none⟩ = some (.int .i64 t267) := (blk_cell BK271.out 3).trans rfl
                have hcz45_4 : wc.cell? ⟨gb271, 4, none⟩ = some (.int .i64 t268) := (blk_cell BK271.out 4).trans rfl
                have hcz45_5 : wc.cell? ⟨gb271, 5, none⟩ = some (.int .i64 t269) := (blk_cell BK271.out 5).trans rfl
                have hcz45_6 : wc.cell? ⟨gb271, 6, none⟩ = some (.int .i64 t270) := (blk_cell BK271.out 6).trans rfl
                have hfz45_0 := blk_frozen BK271.out 0
                have hfz45_1 := blk_frozen BK271.out 1
                have hfz45_2 := blk_frozen BK271.out 2
                have hfz45_3 := blk_frozen BK271.out 3
                have hfz45_4 := blk_frozen BK271.out 4
                have hfz45_5 := blk_frozen BK271.out 5
                have hfz45_6 := blk_frozen BK271.out 6
                go_upto_region 10 with (first | ((with_reducible refine gate_dst (N := 7) rfl ?_); refine box_event ?hg (N := 7) ?hd (cs := #[.int .i64 0, .int .i64 0, .int .i64 0, .int .i64 0, .int .i64 0, .int .i64 0, .int .i64 0]) (t := 23) ?hr ?_; (case hd => rfl); (case hg => rfl); (case hr => first | (go_simp; done) | (go_simp; rfl)); intro gb282 hg w46 hbox hb; have n0_ := Aside0.mk (blk_below (g := gb271) (o := .cells #[.int .i64 t264, .int .i64 t265, .int .i64 t266, .int .i64 t267, .int .i64 t268, .int .i64 t269, .int .i64 t270] 23 (0, 0)) (by (with_reducible repeat (first | refine blk_drewN ?_ _ | refine blk_drew ?_ | refine blk_alloc ?_ _)); exact BK271.out) hb); have n1_ := Aside0.mk (blk_below (g := gb279) (o := .cells #[.int .i64 t272, .int .i64 t273, .int .i64 t274, .int .i64 t275, .int .i64 t276, .int .i64 t277, .int .i64 t278] 23 (0, 0)) (by (with_reducible repeat (first | refine blk_drewN ?_ _ | refine blk_drew ?_ | refine blk_alloc ?_ _)); exact BK279.out) hb); have n2_ := Aside0.mk (below_step (by repeat (first | (with_reducible first | exact HB.out | apply below_alloc | apply pw_below_drewN | apply below_drew1 | refine below_set ?_ GE271.out | refine below_set ?_ GE279.out) | exact HB.out)) hb); have n3_ := Aside0.mk (hbox); have n4_ := Aside0.mk ((by rw [hg]; exact (below_size (by repeat (first | (with_reducible first | exact HB.out | apply below_alloc | apply pw_below_drewN | apply below_drew1 | refine below_set ?_ GE271.out | refine below_set ?_ GE279.out) | exact HB.out))) : w.heap.size ≤ gb282)); have n5_ := Aside0.mk ((by rw [hg]; exact (below_size (by repeat (first | (with_reducible first | exact HB.out | apply below_alloc | apply pw_below_drewN | apply below_drew1 | refine below_set ?_ GE271.out | refine below_set ?_ GE279.out) | exact HB.out))) : w.heap.size ≤ gb282)); have n6_ := Aside0.mk ((by rw [hg]; exact Nat.ne_of_lt (blk_lt (g := gb271) (o := .cells #[.int .i64 t264, .int .i64 t265, .int .i64 t266, .int .i64 t267, .int .i64 t268, .int .i64 t269, .int .i64 t270] 23 (0, 0)) (by (with_reducible repeat (first | refine blk_drewN ?_ _ | refine blk_drew ?_ | refine blk_alloc ?_ _)); exact BK271.out)) : gb271 ≠ gb282)); have n7_ := Aside0.mk ((by rw [hg]; exact Nat.ne_of_gt (blk_lt (g := gb271) (o := .cells #[.int .i64 t264, .int .i64 t265, .int .i64 t266, .int .i64 t267, .int .i64 t268, .int .i64 t269, .int .i64 t270] 23 (0, 0)) (by (with_reducible repeat (first | refine blk_drewN ?_ _ | refine blk_drew ?_ | refine blk_alloc ?_ _)); exact BK271.out)) : gb282 ≠ gb271)); have n8_ := Aside0.mk ((by rw [hg]; exact Nat.ne_of_lt (blk_lt (g := gb279) (o := .cells #[.int .i64 t272, .int .i64 t273, .int .i64 t274, .int .i64 t275, .int .i64 t276, .int .i64 t277, .int .i64 t278] 23 (0, 0)) (by (with_reducible repeat (first | refine blk_drewN ?_ _ | refine blk_drew ?_ | refine blk_alloc ?_ _)); exact BK279.out)) : gb279 ≠ gb282)); have n9_ := Aside0.mk ((by rw [hg]; exact Nat.ne_of_gt (blk_lt (g := gb279) (o := .cells #[.int .i64 t272, .int .i64 t273, .int .i64 t274, .int .i64 t275, .int .i64 t276, .int .i64 t277, .int .i64 t278] 23 (0, 0)) (by (with_reducible repeat (first | refine blk_drewN ?_ _ | refine blk_drew ?_ | refine blk_alloc ?_ _)); exact BK279.out)) : gb282 ≠ gb279)); clear BK271; clear BK279; clear HB; have BK271 := n0_; have BK279 := n1_; have HB := n2_; have BK282 := n3_; have GW282 := n4_; have GE282 := n5_; have NB271_282 := n6_; have NB282_271 := n7_; have NB279_282 := n8_; have NB282_279 := n9_; clear n0_ n1_ n2_ n3_ n4_ n5_ n6_ n7_ n8_ n9_; clear hb hbox hg; have hnb47 := NB282_271.out; have hnc47 := NB271_282.out; have hnb48 := NB282_279.out; have hnc48 := NB279_282.out; have hcz49_0 : w46.cell? ⟨gb282, 0, none⟩ = some (.int .i64 0) := (blk_cell BK282.out 0).trans rfl; have hcz49_1 : w46.cell? ⟨gb282, 1, none⟩ = some (.int .i64 0) := (blk_cell BK282.out 1).trans rfl; have hcz49_2 : w46.cell? ⟨gb282, 2, none⟩ = some (.int .i64 0) := (blk_cell BK282.out 2).trans rfl; have hcz49_3 : w46.cell? ⟨gb282, 3, none⟩ = some (.int .i64 0) := (blk_cell BK282.out 3).trans rfl; have hcz49_4 : w46.cell? ⟨gb282, 4, none⟩ = some (.int .i64 0) := (blk_cell BK282.out 4).trans rfl; have hcz49_5 : w46.cell? ⟨gb282, 5, none⟩ = some (.int .i64 0) := (blk_cell BK282.out 5).trans rfl; have hcz49_6 : w46.cell? ⟨gb282, 6, none⟩ = some (.int .i64 0) := (blk_cell BK282.out 6).trans rfl; have hfz49_0 := blk_frozen BK282.out 0; have hfz49_1 := blk_frozen BK282.out 1; have hfz49_2 := blk_frozen BK282.out 2; have hfz49_3 := blk_frozen BK282.out 3; have hfz49_4 := blk_frozen BK282.out 4; have hfz49_5 := blk_frozen BK282.out 5; have hfz49_6 := blk_frozen BK282.out 6))
                (try simp only [Act.put, List.setIfInBounds_toArray, List.set_cons_zero, List.set_cons_succ])
                go_cut [] (fun wc => ∃ (kq : Nat) (x283005_42 : Int), Aside0 (zoneinfolaw05_DatetimeFields.j2 kq t272 t273 t274 t275 t276 t277 t278 t264 t265 t266 t267 t268 x283005_42 t270 = some r) ∧ Aside0 (kq ≤ kj12) ∧ Aside0 (wc.heap[gb271]? = some (.cells #[.int .i64 t264, .int .i64 t265, .int .i64 t266, .int .i64 t267, .int .i64 t268, .int .i64 t269, .int .i64 t270] 23 (0, 0))) ∧ Aside0 (wc.heap[gb279]? = some (.cells #[.int .i64 t272, .int .i64 t273, .int .i64 t274, .int .i64 t275, .int .i64 t276, .int .i64 t277, .int .i64 t278] 23 (0, 0))) ∧ Aside0 (wc.heap[gb282]? = some (.cells #[.int .i64 t264, .int .i64 t265, .int .i64 t266, .int .i64 t267, .int .i64 t268, .int .i64 x283005_42, .int .i64 t270] 23 (0, 0))) ∧ Aside0 (Below w.heap.size w wc))
                case first =>
                  have H := HC43.out
                  clear HC43
                  have H' := Aside0.mk H
                  clear H
                  have hnb50 := NB271_279.out
                  have hnc50 := NB279_271.out
                  have hnb51 := NB271_282.out
                  have hnc51 := NB282_271.out
                  have hcz52_0 : w46.cell? ⟨gb271, 0, none⟩ = some (.int .i64 t264) := (blk_cell BK271.out 0).trans rfl
                  have hcz52_1 : w46.cell? ⟨gb271, 1, none⟩ = some (.int .i64 t265) := (blk_cell BK271.out 1).trans rfl
                  have hcz52_2 : w46.cell? ⟨gb271, 2, none⟩ = some (.int .i64 t266) := (blk_cell BK271.out 2).trans rfl
                  have hcz52_3 : w46.cell? ⟨gb271, 3, none⟩ = some (.int .i64 t267) := (blk_cell BK271.out 3).trans rfl
                  have hcz52_4 : w46.cell? ⟨gb271, 4, none⟩ = some (.int .i64 t268) := (blk_cell BK271.out 4).trans rfl
                  have hcz52_5 : w46.cell? ⟨gb271, 5, none⟩ = some (.int .i64 t269) := (blk_cell BK271.out 5).trans rfl
                  have hcz52_6 : w46.cell? ⟨gb271, 6, none⟩ = some (.int .i64 t270) := (blk_cell BK271.out 6).trans rfl
                  have hfz52_0 := blk_frozen BK271.out 0
                  have hfz52_1 := blk_frozen BK271.out 1
                  have hfz52_2 := blk_frozen BK271.out 2
                  have hfz52_3 := blk_frozen BK271.out 3
                  have hfz52_4 := blk_frozen BK271.out 4
                  have hfz52_5 := blk_frozen BK271.out 5
                  have hfz52_6 := blk_frozen BK271.out 6
                  have hnb53 := NB282_279.out
                  have hnc53 := NB279_282.out
                  have hcz54_0 : w46.cell? ⟨gb282, 0, none⟩ = some (.int .i64 0) := (blk_cell BK282.out 0).trans rfl
                  have hcz54_1 : w46.cell? ⟨gb282, 1, none⟩ = some (.int .i64 0) := (blk_cell BK282.out 1).trans rfl
                  have hcz54_2 : w46.cell? ⟨gb282, 2, none⟩ = some (.int .i64 0) := (blk_cell BK282.out 2).trans rfl
                  have hcz54_3 : w46.cell? ⟨gb282, 3, none⟩ = some (.int .i64 0) := (blk_cell BK282.out 3).trans rfl
                  have hcz54_4 : w46.cell? ⟨gb282, 4, none⟩ = some (.int .i64 0) := (blk_cell BK282.out 4).trans rfl
                  have hcz54_5 : w46.cell? ⟨gb282, 5, none⟩ = some (.int .i64 0) := (blk_cell BK282.out 5).trans rfl
                  have hcz54_6 : w46.cell? ⟨gb282, 6, none⟩ = some (.int .i64 0) := (blk_cell BK282.out 6).trans rfl
                  have hfz54_0 := blk_frozen BK282.out 0
                  have hfz54_1 := blk_frozen BK282.out 1
                  have hfz54_2 := blk_frozen BK282.out 2
                  have hfz54_3 := blk_frozen BK282.out 3
                  have hfz54_4 := blk_frozen BK282.out 4
                  have hfz54_5 := blk_frozen BK282.out 5
                  have hfz54_6 := blk_frozen BK282.out 6
                  go_wp2
                  go_meet
                  case rel => exact ⟨_, (wrap64 (t269 + 1)), H', ⟨by have := HJ1.out; have := HJ12.out; first | omega | exact Nat.le_refl _⟩, ⟨by (with_reducible repeat (first | refine blk_drewN ?_ _ | refine blk_drew ?_ | refine blk_alloc ?_ _)); refine blk_far ?_ NB271_282.out _; (with_reducible repeat (first | refine blk_drewN ?_ _ | refine blk_drew ?_ | refine blk_alloc ?_ _)); refine blk_far ?_ NB271_282.out _; (with_reducible repeat (first | refine blk_drewN ?_ _ | refine blk_drew ?_ | refine blk_alloc ?_ _)); refine blk_far ?_ NB271_282.out _; (with_reducible repeat (first | refine blk_drewN ?_ _ | refine blk_drew ?_ | refine blk_alloc ?_ _)); refine blk_far ?_ NB271_282.out _; (with_reducible repeat (first | refine blk_drewN ?_ _ | refine blk_drew ?_ | refine blk_alloc ?_ _)); refine blk_far ?_ NB271_282.out _; (with_reducible repeat (first | refine blk_drewN ?_ _ | refine blk_drew ?_ | refine blk_alloc ?_ _)); refine blk_far ?_ NB271_282.out _; (with_reducible repeat (first | refine blk_drewN ?_ _ | refine blk_drew ?_ | refine blk_alloc ?_ _)); refine blk_far ?_ NB271_282.out _; (with_reducible repeat (first | refine blk_drewN ?_ _ | refine blk_drew ?_ | refine blk_alloc ?_ _)); refine blk_far ?_ NB271_282.out _; (with_reducible repeat (first | refine blk_drewN ?_ _ | refine blk_drew ?_ | refine blk_alloc ?_ _)); exact BK271.out⟩, ⟨by (with_reducible repeat (first | refine blk_drewN ?_ _ | refine blk_drew ?_ | refine blk_alloc ?_ _)); refine blk_far ?_ NB279_282.out _; (with_reducible repeat (first | refine blk_drewN ?_ _ | refine blk_drew ?_ | refine blk_alloc ?_ _)); refine blk_far ?_ NB279_282.out _; (with_reducible repeat (first | refine blk_drewN ?_ _ | refine blk_drew ?_ | refine blk_alloc ?_ _)); refine blk_far ?_ NB279_282.out _; (with_reducible repeat (first | refine blk_drewN ?_ _ | refine blk_drew ?_ | refine blk_alloc ?_ _)); refine blk_far ?_ NB279_282.out _; (with_reducible repeat (first | refine blk_drewN ?_ _ | refine blk_drew ?_ | refine blk_alloc ?_ _)); refine blk_far ?_ NB279_282.out _; (with_reducible repeat (first | refine blk_drewN ?_ _ | refine blk_drew ?_ | refine blk_alloc ?_ _)); refine blk_far ?_ NB279_282.out _; (with_reducible repeat (first | refine blk_drewN ?_ _ | refine blk_drew ?_ | refine blk_alloc ?_ _)); refine blk_far ?_ NB279_282.out _; (with_reducible repeat (first | refine blk_drewN ?_ _ | refine blk_drew ?_ | refine blk_alloc ?_ _)); refine blk_far ?_ NB279_282.out _; (with_reducible repeat (first | refine blk_drewN ?_ _ | refine blk_drew ?_ | refine blk_alloc ?_ _)); exact BK279.out⟩, ⟨by (with_reducible repeat (first | refine blk_drewN ?_ _ | refine blk_drew ?_ | refine blk_alloc ?_ _)); refine blk_put (cs := #[.int .i64 t264, .int .i64 t265, .int .i64 t266, .int .i64 t267, .int .i64 t268, .int .i64 t269, .int .i64 t270]) ?_ 5 _ rfl; (with_reducible repeat (first | refine blk_drewN ?_ _ | refine blk_drew ?_ | refine blk_alloc ?_ _)); refine blk_put (cs := #[.int .i64 t264, .int .i64 t265, .int .i64 t266, .int .i64 t267, .int .i64 t268, .int .i64 t269, .int .i64 0]) ?_ 6 _ rfl; (with_reducible repeat (first | refine blk_drewN ?_ _ | refine blk_drew ?_ | refine blk_alloc ?_ _)); refine blk_put (cs := #[.int .i64 t264, .int .i64 t265, .int .i64 t266, .int .i64 t267, .int .i64 t268, .int .i64 0, .int .i64 0]) ?_ 5 _ rfl; (with_reducible repeat (first | refine blk_drewN ?_ _ | refine blk_drew ?_ | refine blk_alloc ?_ _)); refine blk_put (cs := #[.int .i64 t264, .int .i64 t265, .int .i64 t266, .int .i64 t267, .int .i64 0, .int .i64 0, .int .i64 0]) ?_ 4 _ rfl; (with_reducible repeat (first | refine blk_drewN ?_ _ | refine blk_drew ?_ | refine blk_alloc ?_ _)); refine blk_put (cs := #[.int .i64 t264, .int .i64 t265, .int .i64 t266, .int .i64 0, .int .i64 0, .int .i64 0, .int .i64 0]) ?_ 3 _ rfl; (with_reducible repeat (first | refine blk_drewN ?_ _ | refine blk_drew ?_ | refine blk_alloc ?_ _)); refine blk_put (cs := #[.int .i64 t264, .int .i64 t265, .int .i64 0, .int .i64 0, .int .i64 0, .int .i64 0, .int .i64 0]) ?_ 2 _ rfl; (with_reducible repeat (first | refine blk_drewN ?_ _ | refine blk_drew ?_ | refine blk_alloc ?_ _)); refine blk_put (cs := #[.int .i64 t264, .int .i64 0, .int .i64 0, .int .i64 0, .int .i64 0, .int .i64 0, .int .i64 0]) ?_ 1 _ rfl; (with_reducible repeat (first | refine blk_drewN ?_ _ | refine blk_drew ?_ | refine blk_alloc ?_ _)); refine blk_put (cs := #[.int .i64 0, .int .i64 0, .int .i64 0, .int .i64 0, .int .i64 0, .int .i64 0, .int .i64 0]) ?_ 0 _ rfl; (with_reducible repeat (first | refine blk_drewN ?_ _ | refine blk_drew ?_ | refine blk_alloc ?_ _)); exact BK282.out⟩, ⟨by repeat (first | (with_reducible first | exact HB.out | apply below_alloc | apply pw_below_drewN | apply below_drew1 | refine below_set ?_ GE271.out | refine below_set ?_ GE279.out | refine below_set ?_ GE282.out) | exact HB.out)⟩⟩
                case rest =>
                  clear HC43
                  try clear c1
                  try clear c2
                  try clear p2
                  try clear c3
                  try clear c4
                  try clear c5
                  try clear p6
                  try clear c7
                  try clear c8
                  try clear c9
                  try clear c13
                  try clear c19
                  try clear c21
                  try clear c21b0
                  try clear c21b1
                  try clear c22
                  try clear c22b0
                  try clear c23
                  try clear c25
                  try clear c25b0
                  try clear c26
                  try clear c28
                  try clear c28b0
                  try clear c29
                  try clear c31
                  try clear c31b0
                  try clear c32
                  try clear c34
                  try clear c34b0
                  try clear c35
                  try clear c37
                  try clear c39
                  try clear c41
                  try clear c42
                  try clear c42b0
                  try clear c44
                  try clear c47
                  try clear c48
                  try clear c50
                  try clear c51
                  try clear c53
                  try clear hcz16_0
                  try clear hcz16_1
                  try clear hcz16_2
                  try clear hcz16_3
                  try clear hcz16_4
                  try clear hcz16_5
                  try clear hcz16_6
                  try clear hcz20_0
                  try clear hcz20_1
                  try clear hcz20_2
                  try clear hcz20_3
                  try clear hcz20_4
                  try clear hcz20_5
                  try clear hcz20_6
                  try clear hcz24_0
                  try clear hcz24_1
                  try clear hcz24_2
                  try clear hcz24_3
                  try clear hcz24_4
                  try clear hcz24_5
                  try clear hcz24_6
                  try clear hcz27_0
                  try clear hcz27_1
                  try clear hcz27_2
                  try clear hcz27_3
                  try clear hcz27_4
                  try clear hcz27_5
                  try clear hcz27_6
                  try clear hcz30_0
                  try clear hcz30_1
                  try clear hcz30_2
                  try clear hcz30_3
                  try clear hcz30_4
                  try clear hcz30_5
                  try clear hcz30_6
                  try clear hcz33_0
                  try clear hcz33_1
                  try clear hcz33_2
                  try clear hcz33_3
                  try clear hcz33_4
                  try clear hcz33_5
                  try clear hcz33_6
                  try clear hcz36_0
                  try clear hcz36_1
                  try clear hcz36_2
                  try clear hcz36_3
                  try clear hcz36_4
                  try clear hcz36_5
                  try clear hcz36_6
                  try clear hcz38_0
                  try clear hcz38_1
                  try clear hcz38_2
                  try clear hcz38_3
                  try clear hcz38_4
                  try clear hcz38_5
                  try clear hcz38_6
                  try clear hcz40_0
                  try clear hcz40_1
                  try clear hcz40_2
                  try clear hcz40_3
                  try clear hcz40_4
                  try clear hcz40_5
                  try clear hcz40_6
                  try clear hcz45_0
                  try clear hcz45_1
                  try clear hcz45_2
                  try clear hcz45_3
                  try clear hcz45_4
                  try clear hcz45_5
                  try clear hcz45_6
                  try clear hcz49_0
                  try clear hcz49_1
                  try clear hcz49_2
                  try clear hcz49_3
                  try clear hcz49_4
                  try clear hcz49_5
                  try clear hcz49_6
                  try clear hcz52_0
                  try clear hcz52_1
                  try clear hcz52_2
                  try clear hcz52_3
                  try clear hcz52_4
                  try clear hcz52_5
                  try clear hcz52_6
                  try clear hcz54_0
                  try clear hcz54_1
                  try clear hcz54_2
                  try clear hcz54_3
                  try clear hcz54_4
                  try clear hcz54_5
                  try clear hcz54_6
                  try clear hfz16_0
                  try clear hfz16_1
                  try clear hfz16_2
                  try clear hfz16_3
                  try clear hfz16_4
                  try clear hfz16_5
                  try clear hfz16_6
                  try clear hfz20_0
                  try clear hfz20_1
                  try clear hfz20_2
                  try clear hfz20_3
                  try clear hfz20_4
                  try clear hfz20_5
                  try clear hfz20_6
                  try clear hfz24_0
                  try clear hfz24_1
                  try clear hfz24_2
                  try clear hfz24_3
                  try clear hfz24_4
                  try clear hfz24_5
                  try clear hfz24_6
                  try clear hfz27_0
                  try clear hfz27_1
                  try clear hfz27_2
                  try clear hfz27_3
                  try clear hfz27_4
                  try clear hfz27_5
                  try clear hfz27_6
                  try clear hfz30_0
                  try clear hfz30_1
                  try clear hfz30_2
                  try clear hfz30_3
                  try clear hfz30_4
                  try clear hfz30_5
                  try clear hfz30_6
                  try clear hfz33_0
                  try clear hfz33_1
                  try clear hfz33_2
                  try clear hfz33_3
                  try clear hfz33_4
                  try clear hfz33_5
                  try clear hfz33_6
                  try clear hfz36_0
                  try clear hfz36_1
                  try clear hfz36_2
                  try clear hfz36_3
                  try clear hfz36_4
                  try clear hfz36_5
                  try clear hfz36_6
                  try clear hfz38_0
                  try clear hfz38_1
                  try clear hfz38_2
                  try clear hfz38_3
                  try clear hfz38_4
                  try clear hfz38_5
                  try clear hfz38_6
                  try clear hfz40_0
                  try clear hfz40_1
                  try clear hfz40_2
                  try clear hfz40_3
                  try clear hfz40_4
                  try clear hfz40_5
                  try clear hfz40_6
                  try clear hfz45_0
                  try clear hfz45_1
                  try clear hfz45_2
                  try clear hfz45_3
                  try clear hfz45_4
                  try clear hfz45_5
                  try clear hfz45_6
                  try clear hfz49_0
                  try clear hfz49_1
                  try clear hfz49_2
                  try clear hfz49_3
                  try clear hfz49_4
                  try clear hfz49_5
                  try clear hfz49_6
                  try clear hfz52_0
                  try clear hfz52_1
                  try clear hfz52_2
                  try clear hfz52_3
                  try clear hfz52_4
                  try clear hfz52_5
                  try clear hfz52_6
                  try clear hfz54_0
                  try clear hfz54_1
                  try clear hfz54_2
                  try clear hfz54_3
                  try clear hfz54_4
                  try clear hfz54_5
                  try clear hfz54_6
                  try clear p2
                  try clear p6
                  obtain ⟨kq, x283005_42, HA, HJ42, BK271, BK279, BK282, HB⟩ := hcut
                  cases kq with
                  | zero => exact absurd HA.out (by simp [zoneinfolaw05_DatetimeFields.j2])
                  | succ kj42 =>
                    have H := HA.out
                    clear HA
                    simp only [zoneinfolaw05_DatetimeFields.j2] at H
                    obtain rfl := Option.some.inj H
                    have hnb55 := NB279_271.out
                    have hnc55 := NB271_279.out
                    have hnb56 := NB279_282.out
                    have hnc56 := NB282_279.out
                    have hcz57_0 : wc.cell? ⟨gb279, 0, none⟩ = some (.int .i64 t272) := (blk_cell BK279.out 0).trans rfl
                    have hcz57_1 : wc.cell? ⟨gb279, 1, none⟩ = some (.int .i64 t273) := (blk_cell BK279.out 1).trans rfl
                    have hcz57_2 : wc.cell? ⟨gb279, 2, none⟩ = some (.int .i64 t274) := (blk_cell BK279.out 2).trans rfl
                    have hcz57_3 : wc.cell? ⟨gb279, 3, none⟩ = some (.int .i64 t275) := (blk_cell BK279.out 3).trans rfl
                    have hcz57_4 : wc.cell? ⟨gb279, 4, none⟩ = some (.int .i64 t276) := (blk_cell BK279.out 4).trans rfl
                    have hcz57_5 : wc.cell? ⟨gb279, 5, none⟩ = some (.int .i64 t277) := (blk_cell BK279.out 5).trans rfl
                    have hcz57_6 : wc.cell? ⟨gb279, 6, none⟩ = some (.int .i64 t278) := (blk_cell BK279.out 6).trans rfl
                    have hfz57_0 := blk_frozen BK279.out 0
                    have hfz57_1 := blk_frozen BK279.out 1
                    have hfz57_2 := blk_frozen BK279.out 2
                    have hfz57_3 := blk_frozen BK279.out 3
                    have hfz57_4 := blk_frozen BK279.out 4
                    have hfz57_5 := blk_frozen BK279.out 5
                    have hfz57_6 := blk_frozen BK279.out 6
                    have hnb58 := NB282_271.out
                    have hnc58 := NB271_282.out
                    have hcz59_0 : wc.cell? ⟨gb282, 0, none⟩ = some (.int .i64 t264) := (blk_cell BK282.out 0).trans rfl
                    have hcz59_1 : wc.cell? ⟨gb282, 1, none⟩ = some (.int .i64 t265) := (blk_cell BK282.out 1).trans rfl
                    have hcz59_2 : wc.cell? ⟨gb282, 2, none⟩ = some (.int .i64 t266) := (blk_cell BK282.out 2).trans rfl
                    have hcz59_3 : wc.cell? ⟨gb282, 3, none⟩ = some (.int .i64 t267) := (blk_cell BK282.out 3).trans rfl
                    have hcz59_4 : wc.cell? ⟨gb282, 4, none⟩ = some (.int .i64 t268) := (blk_cell BK282.out 4).trans rfl
                    have hcz59_5 : wc.cell? ⟨gb282, 5, none⟩ = some (.int .i64 x283005_42) := (blk_cell BK282.out 5).trans rfl
                    have hcz59_6 : wc.cell? ⟨gb282, 6, none⟩ = some (.int .i64 t270) := (blk_cell BK282.out 6).trans rfl
                    have hfz59_0 := blk_frozen BK282.out 0
                    have hfz59_1 := blk_frozen BK282.out 1
                    have hfz59_2 := blk_frozen BK282.out 2
                    have hfz59_3 := blk_frozen BK282.out 3
                    have hfz59_4 := blk_frozen BK282.out 4
                    have hfz59_5 := blk_frozen BK282.out 5
                    have hfz59_6 := blk_frozen BK282.out 6
                    go_wp2
                    go_ret
                    exact ⟨by first | rfl | (simp [errW_none, errW_some] <;> rfl) | (simp [*, errW_none, errW_some] <;> rfl), by repeat (first | (with_reducible first | exact HB.out | apply below_alloc | apply pw_below_drewN | apply below_drew1 | refine below_set ?_ GE271.out | refine below_set ?_ GE279.out | refine below_set ?_ GE282.out) | exact HB.out)⟩
              · rw [if_neg c42] at H
                have c42b0 : decide (t269 < 59) = false := decide_eq_false c42
                clear c42
                by_cases c60 : t268 < 59
                · rw [if_pos c60] at H
                  have c60b0 : decide (t268 < 59) = true := decide_eq_true c60
                  clear c60
                  have HC61 := Aside0.mk H
                  clear H
                  have hnb62 := NB271_279.out
                  have hnc62 := NB279_271.out
                  have hcz63_0 : wc.cell? ⟨gb271, 0, none⟩ = some (.int .i64 t264) := (blk_cell BK271.out 0).trans rfl
                  have hcz63_1 : wc.cell? ⟨gb271, 1, none⟩ = some (.int .i64 t265) := (blk_cell BK271.out 1).trans rfl
                  have hcz63_2 : wc.cell? ⟨gb271, 2, none⟩ = some (.int .i64 t266) := (blk_cell BK271.out 2).trans rfl
                  have hcz63_3 : wc.cell? ⟨gb271, 3, none⟩ = some (.int .i64 t267) := (blk_cell BK271.out 3).trans rfl
                  have hcz63_4 : wc.cell? ⟨gb271, 4, none⟩ = some (.int .i64 t268) := (blk_cell BK271.out 4).trans rfl
                  have hcz63_5 : wc.cell? ⟨gb271, 5, none⟩ = some (.int .i64 t269) := (blk_cell BK271.out 5).trans rfl
                  have hcz63_6 : wc.cell? ⟨gb271, 6, none⟩ = some (.int .i64 t270) := (blk_cell BK271.out 6).trans rfl
                  have hfz63_0 := blk_frozen BK271.out 0
                  have hfz63_1 := blk_frozen BK271.out 1
                  have hfz63_2 := blk_frozen BK271.out 2
                  have hfz63_3 := blk_frozen BK271.out 3
                  have hfz63_4 := blk_frozen BK271.out 4
                  have hfz63_5 := blk_frozen BK271.out 5
                  have hfz63_6 := blk_frozen BK271.out 6
                  go_upto_region 15 with (first | ((with_reducible refine gate_dst (N := 8) rfl ?_); refine box_event ?hg (N := 8) ?hd (cs := #[.int .i64 0, .int .i64 0, .int .i64 0, .int .i64 0, .int .i64 0, .int .i64 0, .int .i64 0]) (t := 23) ?hr ?_; (case hd => rfl); (case hg => rfl); (case hr => first | (go_simp; done) | (go_simp; rfl)); intro gb283 hg w64 hbox hb; have n0_ := Aside0.mk (blk_below (g := gb271) (o := .cells #[.int .i64 t264, .int .i64 t265, .int .i64 t266, .int .i64 t267, .int .i64 t268, .int .i64 t269, .int .i64 t270] 23 (0, 0)) (by (with_reducible repeat (first | refine blk_drewN ?_ _ | refine blk_drew ?_ | refine blk_alloc ?_ _)); exact BK271.out) hb); have n1_ := Aside0.mk (blk_below (g := gb279) (o := .cells #[.int .i64 t272, .int .i64 t273, .int .i64 t274, .int .i64 t275, .int .i64 t276, .int .i64 t277, .int .i64 t278] 23 (0, 0)) (by (with_reducible repeat (first | refine blk_drewN ?_ _ | refine blk_drew ?_ | refine blk_alloc ?_ _)); exact BK279.out) hb); have n2_ := Aside0.mk (below_step (by repeat (first | (with_reducible first | exact HB.out | apply below_alloc | apply pw_below_drewN | apply below_drew1 | refine below_set ?_ GE271.out | refine below_set ?_ GE279.out) | exact HB.out)) hb); have n3_ := Aside0.mk (hbox); have n4_ := Aside0.mk ((by rw [hg]; exact (below_size (by repeat (first | (with_reducible first | exact HB.out | apply below_alloc | apply pw_below_drewN | apply below_drew1 | refine below_set ?_ GE271.out | refine below_set ?_ GE279.out) | exact HB.out))) : w.heap.size ≤ gb283)); have n5_ := Aside0.mk ((by rw [hg]; exact (below_size (by repeat (first | (with_reducible first | exact HB.out | apply below_alloc | apply pw_below_drewN | apply below_drew1 | refine below_set ?_ GE271.out | refine below_set ?_ GE279.out) | exact HB.out))) : w.heap.size ≤ gb283)); have n6_ := Aside0.mk ((by rw [hg]; exact Nat.ne_of_lt (blk_lt (g := gb271) (o := .cells #[.int .i64 t264, .int .i64 t265, .int .i64 t266, .int .i64 t267, .int .i64 t268, .int .i64 t269, .int .i64 t270] 23 (0, 0)) (by (with_reducible repeat (first | refine blk_drewN ?_ _ | refine blk_drew ?_ | refine blk_alloc ?_ _)); exact BK271.out)) : gb271 ≠ gb283)); have n7_ := Aside0.mk ((by rw [hg]; exact Nat.ne_of_gt (blk_lt (g := gb271) (o := .cells #[.int .i64 t264, .int .i64 t265, .int .i64 t266, .int .i64 t267, .int .i64 t268, .int .i64 t269, .int .i64 t270] 23 (0, 0)) (by (with_reducible repeat (first | refine blk_drewN ?_ _ | refine blk_drew ?_ | refine blk_alloc ?_ _)); exact BK271.out)) : gb283 ≠ gb271)); have n8_ := Aside0.mk ((by rw [hg]; exact Nat.ne_of_lt (blk_lt (g := gb279) (o := .cells #[.int .i64 t272, .int .i64 t273, .int .i64 t274, .int .i64 t275, .int .i64 t276, .int .i64 t277, .int .i64 t278] 23 (0, 0)) (by (with_reducible repeat (first | refine blk_drewN ?_ _ | refine blk_drew ?_ | refine blk_alloc ?_ _)); exact BK279.out)) : gb279 ≠ gb283)); have n9_ := Aside0.mk ((by rw [hg]; exact Nat.ne_of_gt (blk_lt (g := gb279) (o := .cells #[.int .i64 t272, .int .i64 t273, .int .i64 t274, .int .i64 t275, .int .i64 t276, .int .i64 t277, .int .i64 t278] 23 (0, 0)) (by (with_reducible repeat (first | refine blk_drewN ?_ _ | refine blk_drew ?_ | refine blk_alloc ?_ _)); exact BK279.out)) : gb283 ≠ gb279)); clear BK271; clear BK279; clear HB; have BK271 := n0_; have BK279 := n1_; have HB := n2_; have BK283 := n3_; have GW283 := n4_; have GE283 := n5_; have NB271_283 := n6_; have NB283_271 := n7_; have NB279_283 := n8_; have NB283_279 := n9_; clear n0_ n1_ n2_ n3_ n4_ n5_ n6_ n7_ n8_ n9_; clear hb hbox hg; have hnb65 := NB283_271.out; have hnc65 := NB271_283.out; have hnb66 := NB283_279.out; have hnc66 := NB279_283.out; have hcz67_0 : w64.cell? ⟨gb283, 0, none⟩ = some (.int .i64 0) := (blk_cell BK283.out 0).trans rfl; have hcz67_1 : w64.cell? ⟨gb283, 1, none⟩ = some (.int .i64 0) := (blk_cell BK283.out 1).trans rfl; have hcz67_2 : w64.cell? ⟨gb283, 2, none⟩ = some (.int .i64 0) := (blk_cell BK283.out 2).trans rfl; have hcz67_3 : w64.cell? ⟨gb283, 3, none⟩ = some (.int .i64 0) := (blk_cell BK283.out 3).trans rfl; have hcz67_4 : w64.cell? ⟨gb283, 4, none⟩ = some (.int .i64 0) := (blk_cell BK283.out 4).trans rfl; have hcz67_5 : w64.cell? ⟨gb283, 5, none⟩ = some (.int .i64 0) := (blk_cell BK283.out 5).trans rfl; have hcz67_6 : w64.cell? ⟨gb283, 6, none⟩ = some (.int .i64 0) := (blk_cell BK283.out 6).trans rfl; have hfz67_0 := blk_frozen BK283.out 0; have hfz67_1 := blk_frozen BK283.out 1; have hfz67_2 := blk_frozen BK283.out 2; have hfz67_3 := blk_frozen BK283.out 3; have hfz67_4 := blk_frozen BK283.out 4; have hfz67_5 := blk_frozen BK283.out 5; have hfz67_6 := blk_frozen BK283.out 6))
                  (try simp only [Act.put, List.setIfInBounds_toArray, List.set_cons_zero, List.set_cons_succ])
                  go_cut [] (fun wc => ∃ (kq : Nat) (x284004_60 : Int), Aside0 (zoneinfolaw05_DatetimeFields.j3 kq t272 t273 t274 t275 t276 t277 t278 t264 t265 t266 t267 x284004_60 0 t270 = some r) ∧ Aside0 (kq ≤ kj12) ∧ Aside0 (wc.heap[gb271]? = some (.cells #[.int .i64 t264, .int .i64 t265, .int .i64 t266, .int .i64 t267, .int .i64 t268, .int .i64 t269, .int .i64 t270] 23 (0, 0))) ∧ Aside0 (wc.heap[gb279]? = some (.cells #[.int .i64 t272, .int .i64 t273, .int .i64 t274, .int .i64 t275, .int .i64 t276, .int .i64 t277, .int .i64 t278] 23 (0, 0))) ∧ Aside0 (wc.heap[gb283]? = some (.cells #[.int .i64 t264, .int .i64 t265, .int .i64 t266, .int .i64 t267, .int .i64 x284004_60, .int .i64 0, .int .i64 t270] 23 (0, 0))) ∧ Aside0 (Below w.heap.size w wc))
                  case first =>
                    have H := HC61.out
                    clear HC61
                    have H' := Aside0.mk H
                    clear H
                    have hnb68 := NB271_279.out
                    have hnc68 := NB279_271.out
                    have hnb69 := NB271_283.out
                    have hnc69 := NB283_271.out
                    have hcz70_0 : w64.cell? ⟨gb271, 0, none⟩ = some (.int .i64 t264) := (blk_cell BK271.out 0).trans rfl
                    have hcz70_1 : w64.cell? ⟨gb271, 1, none⟩ = some (.int .i64 t265) := (blk_cell BK271.out 1).trans rfl
                    have hcz70_2 : w64.cell? ⟨gb271, 2, none⟩ = some (.int .i64 t266) := (blk_cell BK271.out 2).trans rfl
                    have hcz70_3 : w64.cell? ⟨gb271, 3, none⟩ = some (.int .i64 t267) := (blk_cell BK271.out 3).trans rfl
                    have hcz70_4 : w64.cell? ⟨gb271, 4, none⟩ = some (.int .i64 t268) := (blk_cell BK271.out 4).trans rfl
                    have hcz70_5 : w64.cell? ⟨gb271, 5, none⟩ = some (.int .i64 t269) := (blk_cell BK271.out 5).trans rfl
                    have hcz70_6 : w64.cell? ⟨gb271, 6, none⟩ = some (.int .i64 t270) := (blk_cell BK271.out 6).trans rfl
                    have hfz70_0 := blk_frozen BK271.out 0
                    have hfz70_1 := blk_frozen BK271.out 1
                    have hfz70_2 := blk_frozen BK271.out 2
                    have hfz70_3 := blk_frozen BK271.out 3
                    have hfz70_4 := blk_frozen BK271.out 4
                    have hfz70_5 := blk_frozen BK271.out 5
                    have hfz70_6 := blk_frozen BK271.out 6
                    have hnb71 := NB283_279.out
                    have hnc71 := NB279_283.out
                    have hcz72_0 : w64.cell? ⟨gb283, 0, none⟩ = some (.int .i64 0) := (blk_cell BK283.out 0).trans rfl
                    have hcz72_1 : w64.cell? ⟨gb283, 1, none⟩ = some (.int .i64 0) := (blk_cell BK283.out 1).trans rfl
                    have hcz72_2 : w64.cell? ⟨gb283, 2, none⟩ = some (.int .i64 0) := (blk_cell BK283.out 2).trans rfl
                    have hcz72_3 : w64.cell? ⟨gb283, 3, none⟩ = some (.int .i64 0) := (blk_cell BK283.out 3).trans rfl
                    have hcz72_4 : w64.cell? ⟨gb283, 4, none⟩ = some (.int .i64 0) := (blk_cell BK283.out 4).trans rfl
                    have hcz72_5 : w64.cell? ⟨gb283, 5, none⟩ = some (.int .i64 0) := (blk_cell BK283.out 5).trans rfl
                    have hcz72_6 : w64.cell? ⟨gb283, 6, none⟩ = some (.int .i64 0) := (blk_cell BK283.out 6).trans rfl
                    have hfz72_0 := blk_frozen BK283.out 0
                    have hfz72_1 := blk_frozen BK283.out 1
                    have hfz72_2 := blk_frozen BK283.out 2
                    have hfz72_3 := blk_frozen BK283.out 3
                    have hfz72_4 := blk_frozen BK283.out 4
                    have hfz72_5 := blk_frozen BK283.out 5
                    have hfz72_6 := blk_frozen BK283.out 6
                    go_wp2
                    go_meet
                    case rel => exact ⟨_, (wrap64 (t268 + 1)), H', ⟨by have := HJ1.out; have := HJ12.out; first | omega | exact Nat.le_refl _⟩, ⟨by (with_reducible repeat (first | refine blk_drewN ?_ _ | refine blk_drew ?_ | refine blk_alloc ?_ _)); refine blk_far ?_ NB271_283.out _; (with_reducible repeat (first | refine blk_drewN ?_ _ | refine blk_drew ?_ | refine blk_alloc ?_ _)); refine blk_far ?_ NB271_283.out _; (with_reducible repeat (first | refine blk_drewN ?_ _ | refine blk_drew ?_ | refine blk_alloc ?_ _)); refine blk_far ?_ NB271_283.out _; (with_reducible repeat (first | refine blk_drewN ?_ _ | refine blk_drew ?_ | refine blk_alloc ?_ _)); refine blk_far ?_ NB271_283.out _; (with_reducible repeat (first | refine blk_drewN ?_ _ | refine blk_drew ?_ | refine blk_alloc ?_ _)); refine blk_far ?_ NB271_283.out _; (with_reducible repeat (first | refine blk_drewN ?_ _ | refine blk_drew ?_ | refine blk_alloc ?_ _)); refine blk_far ?_ NB271_283.out _; (with_reducible repeat (first | refine blk_drewN ?_ _ | refine blk_drew ?_ | refine blk_alloc ?_ _)); refine blk_far ?_ NB271_283.out _; (with_reducible repeat (first | refine blk_drewN ?_ _ | refine blk_drew ?_ | refine blk_alloc ?_ _)); refine blk_far ?_ NB271_283.out _; (with_reducible repeat (first | refine blk_drewN ?_ _ | refine blk_drew ?_ | refine blk_alloc ?_ _)); refine blk_far ?_ NB271_283.out _; (with_reducible repeat (first | refine blk_drewN ?_ _ | refine blk_drew ?_ | refine blk_alloc ?_ _)); exact BK271.out⟩, ⟨by (with_reducible repeat (first | refine blk_drewN ?_ _ | refine blk_drew ?_ | refine blk_alloc ?_ _)); refine blk_far ?_ NB279_283.out _; (with_reducible repeat (first | refine blk_drewN ?_ _ | refine blk_drew ?_ | refine blk_alloc ?_ _)); refine blk_far ?_ NB279_283.out _; (with_reducible repeat (first | refine blk_drewN ?_ _ | refine blk_drew ?_ | refine blk_alloc ?_ _)); refine blk_far ?_ NB279_283.out _; (with_reducible repeat (first | refine blk_drewN ?_ _ | refine blk_drew ?_ | refine blk_alloc ?_ _)); refine blk_far ?_ NB279_283.out _; (with_reducible repeat (first | refine blk_drewN ?_ _ | refine blk_drew ?_ | refine blk_alloc ?_ _)); refine blk_far ?_ NB279_283.out _; (with_reducible repeat (first | refine blk_drewN ?_ _ | refine blk_drew ?_ | refine blk_alloc ?_ _)); refine blk_far ?_ NB279_283.out _; (with_reducible repeat (first | refine blk_drewN ?_ _ | refine blk_drew ?_ | refine blk_alloc ?_ _)); refine blk_far ?_ NB279_283.out _; (with_reducible repeat (first | refine blk_drewN ?_ _ | refine blk_drew ?_ | refine blk_alloc ?_ _)); refine blk_far ?_ NB279_283.out _; (with_reducible repeat (first | refine blk_drewN ?_ _ | refine blk_drew ?_ | refine blk_alloc ?_ _)); refine blk_far ?_ NB279_283.out _; (with_reducible repeat (first | refine blk_drewN ?_ _ | refine blk_drew ?_ | refine blk_alloc ?_ _)); exact BK279.out⟩, ⟨by (with_reducible repeat (first | refine blk_drewN ?_ _ | refine blk_drew ?_ | refine blk_alloc ?_ _)); refine blk_put (cs := #[.int .i64 t264, .int .i64 t265, .int .i64 t266, .int .i64 t267, .int .i64 t268, .int .i64 0, .int .i64 t270]) ?_ 4 _ rfl; (with_reducible repeat (first | refine blk_drewN ?_ _ | refine blk_drew ?_ | refine blk_alloc ?_ _)); refine blk_put (cs := #[.int .i64 t264, .int .i64 t265, .int .i64 t266, .int .i64 t267, .int .i64 t268, .int .i64 t269, .int .i64 t270]) ?_ 5 _ rfl; (with_reducible repeat (first | refine blk_drewN ?_ _ | refine blk_drew ?_ | refine blk_alloc ?_ _)); refine blk_put (cs := #[.int .i64 t264, .int .i64 t265, .int .i64 t266, .int .i64 t267, .int .i64 t268, .int .i64 t269, .int .i64 0]) ?_ 6 _ rfl; (with_reducible repeat (first | refine blk_drewN ?_ _ | refine blk_drew ?_ | refine blk_alloc ?_ _)); refine blk_put (cs := #[.int .i64 t264, .int .i64 t265, .int .i64 t266, .int .i64 t267, .int .i64 t268, .int .i64 0, .int .i64 0]) ?_ 5 _ rfl; (with_reducible repeat (first | refine blk_drewN ?_ _ | refine blk_drew ?_ | refine blk_alloc ?_ _)); refine blk_put (cs := #[.int .i64 t264, .int .i64 t265, .int .i64 t266, .int .i64 t267, .int .i64 0, .int .i64 0, .int .i64 0]) ?_ 4 _ rfl; (with_reducible repeat (first | refine blk_drewN ?_ _ | refine blk_drew ?_ | refine blk_alloc ?_ _)); refine blk_put (cs := #[.int .i64 t264, .int .i64 t265, .int .i64 t266, .int .i64 0, .int .i64 0, .int .i64 0, .int .i64 0]) ?_ 3 _ rfl; (with_reducible repeat (first | refine blk_drewN ?_ _ | refine blk_drew ?_ | refine blk_alloc ?_ _)); refine blk_put (cs := #[.int .i64 t264, .int .i64 t265, .int .i64 0, .int .i64 0, .int .i64 0, .int .i64 0, .int .i64 0]) ?_ 2 _ rfl; (with_reducible repeat (first | refine blk_drewN ?_ _ | refine blk_drew ?_ | refine blk_alloc ?_ _)); refine blk_put (cs := #[.int .i64 t264, .int .i64 0, .int .i64 0, .int .i64 0, .int .i64 0, .int .i64 0, .int .i64 0]) ?_ 1 _ rfl; (with_reducible repeat (first | refine blk_drewN ?_ _ | refine blk_drew ?_ | refine blk_alloc ?_ _)); refine blk_put (cs := #[.int .i64 0, .int .i64 0, .int .i64 0, .int .i64 0, .int .i64 0, .int .i64 0, .int .i64 0]) ?_ 0 _ rfl; (with_reducible repeat (first | refine blk_drewN ?_ _ | refine blk_drew ?_ | refine blk_alloc ?_ _)); exact BK283.out⟩, ⟨by repeat (first | (with_reducible first | exact HB.out | apply below_alloc | apply pw_below_drewN | apply below_drew1 | refine below_set ?_ GE271.out | refine below_set ?_ GE279.out | refine below_set ?_ GE283.out) | exact HB.out)⟩⟩
                  case rest =>
                    clear HC61
                    try clear c1
                    try clear c2
                    try clear p2
                    try clear c3
                    try clear c4
                    try clear c5
                    try clear c6
                    try clear p6
                    try clear c7
                    try clear c8
                    try clear c9
                    try clear c13
                    try clear c19
                    try clear c21
                    try clear c21b0
                    try clear c21b1
                    try clear c22
                    try clear c22b0
                    try clear c23
                    try clear c25
                    try clear c25b0
                    try clear c26
                    try clear c28
                    try clear c28b0
                    try clear c29
                    try clear c31
                    try clear c31b0
                    try clear c32
                    try clear c34
                    try clear c34b0
                    try clear c35
                    try clear c37
                    try clear c39
                    try clear c41
                    try clear c42
                    try clear c42b0
                    try clear c44
                    try clear c47
                    try clear c48
                    try clear c50
                    try clear c51
                    try clear c53
                    try clear c55
                    try clear c56
                    try clear c58
                    try clear c60
                    try clear c60b0
                    try clear c62
                    try clear p64
                    try clear c65
                    try clear c66
                    try clear c68
                    try clear c69
                    try clear c71
                    try clear hcz16_0
                    try clear hcz16_1
                    try clear hcz16_2
                    try clear hcz16_3
                    try clear hcz16_4
                    try clear hcz16_5
                    try clear hcz16_6
                    try clear hcz20_0
                    try clear hcz20_1
                    try clear hcz20_2
                    try clear hcz20_3
                    try clear hcz20_4
                    try clear hcz20_5
                    try clear hcz20_6
                    try clear hcz24_0
                    try clear hcz24_1
                    try clear hcz24_2
                    try clear hcz24_3
                    try clear hcz24_4
                    try clear hcz24_5
                    try clear hcz24_6
                    try clear hcz27_0
                    try clear hcz27_1
                    try clear hcz27_2
                    try clear hcz27_3
                    try clear hcz27_4
                    try clear hcz27_5
                    try clear hcz27_6
                    try clear hcz30_0
                    try clear hcz30_1
                    try clear hcz30_2
                    try clear hcz30_3
                    try clear hcz30_4
                    try clear hcz30_5
                    try clear hcz30_6
                    try clear hcz33_0
                    try clear hcz33_1
                    try clear hcz33_2
                    try clear hcz33_3
                    try clear hcz33_4
                    try clear hcz33_5
                    try clear hcz33_6
                    try clear hcz36_0
                    try clear hcz36_1
                    try clear hcz36_2
                    try clear hcz36_3
                    try clear hcz36_4
                    try clear hcz36_5
                    try clear hcz36_6
                    try clear hcz38_0
                    try clear hcz38_1
                    try clear hcz38_2
                    try clear hcz38_3
                    try clear hcz38_4
                    try clear hcz38_5
                    try clear hcz38_6
                    try clear hcz40_0
                    try clear hcz40_1
                    try clear hcz40_2
                    try clear hcz40_3
                    try clear hcz40_4
                    try clear hcz40_5
                    try clear hcz40_6
                    try clear hcz45_0
                    try clear hcz45_1
                    try clear hcz45_2
                    try clear hcz45_3
                    try clear hcz45_4
                    try clear hcz45_5
                    try clear hcz45_6
                    try clear hcz49_0
                    try clear hcz49_1
                    try clear hcz49_2
                    try clear hcz49_3
                    try clear hcz49_4
                    try clear hcz49_5
                    try clear hcz49_6
                    try clear hcz52_0
                    try clear hcz52_1
                    try clear hcz52_2
                    try clear hcz52_3
                    try clear hcz52_4
                    try clear hcz52_5
                    try clear hcz52_6
                    try clear hcz54_0
                    try clear hcz54_1
                    try clear hcz54_2
                    try clear hcz54_3
                    try clear hcz54_4
                    try clear hcz54_5
                    try clear hcz54_6
                    try clear hcz57_0
                    try clear hcz57_1
                    try clear hcz57_2
                    try clear hcz57_3
                    try clear hcz57_4
                    try clear hcz57_5
                    try clear hcz57_6
                    try clear hcz59_0
                    try clear hcz59_1
                    try clear hcz59_2
                    try clear hcz59_3
                    try clear hcz59_4
                    try clear hcz59_5
                    try clear hcz59_6
                    try clear hcz63_0
                    try clear hcz63_1
                    try clear hcz63_2
                    try clear hcz63_3
                    try clear hcz63_4
                    try clear hcz63_5
                    try clear hcz63_6
                    try clear hcz67_0
                    try clear hcz67_1
                    try clear hcz67_2
                    try clear hcz67_3
                    try clear hcz67_4
                    try clear hcz67_5
                    try clear hcz67_6
                    try clear hcz70_0
                    try clear hcz70_1
                    try clear hcz70_2
                    try clear hcz70_3
                    try clear hcz70_4
                    try clear hcz70_5
                    try clear hcz70_6
                    try clear hcz72_0
                    try clear hcz72_1
                    try clear hcz72_2
                    try clear hcz72_3
                    try clear hcz72_4
                    try clear hcz72_5
                    try clear hcz72_6
                    try clear hfz16_0
                    try clear hfz16_1
                    try clear hfz16_2
                    try clear hfz16_3
                    try clear hfz16_4
                    try clear hfz16_5
                    try clear hfz16_6
                    try clear hfz20_0
                    try clear hfz20_1
                    try clear hfz20_2
                    try clear hfz20_3
                    try clear hfz20_4
                    try clear hfz20_5
                    try clear hfz20_6
                    try clear hfz24_0
                    try clear hfz24_1
                    try clear hfz24_2
                    try clear hfz24_3
                    try clear hfz24_4
                    try clear hfz24_5
                    try clear hfz24_6
                    try clear hfz27_0
                    try clear hfz27_1
                    try clear hfz27_2
                    try clear hfz27_3
                    try clear hfz27_4
                    try clear hfz27_5
                    try clear hfz27_6
                    try clear hfz30_0
                    try clear hfz30_1
                    try clear hfz30_2
                    try clear hfz30_3
                    try clear hfz30_4
                    try clear hfz30_5
                    try clear hfz30_6
                    try clear hfz33_0
                    try clear hfz33_1
                    try clear hfz33_2
                    try clear hfz33_3
                    try clear hfz33_4
                    try clear hfz33_5
                    try clear hfz33_6
                    try clear hfz36_0
                    try clear hfz36_1
                    try clear hfz36_2
                    try clear hfz36_3
                    try clear hfz36_4
                    try clear hfz36_5
                    try clear hfz36_6
                    try clear hfz38_0
                    try clear hfz38_1
                    try clear hfz38_2
                    try clear hfz38_3
                    try clear hfz38_4
                    try clear hfz38_5
                    try clear hfz38_6
                    try clear hfz40_0
                    try clear hfz40_1
                    try clear hfz40_2
                    try clear hfz40_3
                    try clear hfz40_4
                    try clear hfz40_5
                    try clear hfz40_6
                    try clear hfz45_0
                    try clear hfz45_1
                    try clear hfz45_2
                    try clear hfz45_3
                    try clear hfz45_4
                    try clear hfz45_5
                    try clear hfz45_6
                    try clear hfz49_0
                    try clear hfz49_1
                    try clear hfz49_2
                    try clear hfz49_3
                    try clear hfz49_4
                    try clear hfz49_5
                    try clear hfz49_6
                    try clear hfz52_0
                    try clear hfz52_1
                    try clear hfz52_2
                    try clear hfz52_3
                    try clear hfz52_4
                    try clear hfz52_5
                    try clear hfz52_6
                    try clear hfz54_0
                    try clear hfz54_1
                    try clear hfz54_2
                    try clear hfz54_3
                    try clear hfz54_4
                    try clear hfz54_5
                    try clear hfz54_6
                    try clear hfz57_0
                    try clear hfz57_1
                    try clear hfz57_2
                    try clear hfz57_3
                    try clear hfz57_4
                    try clear hfz57_5
                    try clear hfz57_6
                    try clear hfz59_0
                    try clear hfz59_1
                    try clear hfz59_2
                    try clear hfz59_3
                    try clear hfz59_4
                    try clear hfz59_5
                    try clear hfz59_6
                    try clear hfz63_0
                    try clear hfz63_1
                    try clear hfz63_2
                    try clear hfz63_3
                    try clear hfz63_4
                    try clear hfz63_5
                    try clear hfz63_6
                    try clear hfz67_0
                    try clear hfz67_1
                    try clear hfz67_2
                    try clear hfz67_3
                    try clear hfz67_4
                    try clear hfz67_5
                    try clear hfz67_6
                    try clear hfz70_0
                    try clear hfz70_1
                    try clear hfz70_2
                    try clear hfz70_3
                    try clear hfz70_4
                    try clear hfz70_5
                    try clear hfz70_6
                    try clear hfz72_0
                    try clear hfz72_1
                    try clear hfz72_2
                    try clear hfz72_3
                    try clear hfz72_4
                    try clear hfz72_5
                    try clear hfz72_6
                    try clear p2
                    try clear p6
                    obtain ⟨kq, x284004_60, HA, HJ60, BK271, BK279, BK283, HB⟩ := hcut
                    cases kq with
                    | zero => exact absurd HA.out (by simp [zoneinfolaw05_DatetimeFields.j3])
                    | succ kj60 =>
                      have H := HA.out
                      clear HA
                      simp only [zoneinfolaw05_DatetimeFields.j3] at H
                      obtain rfl := Option.some.inj H
                      have hnb73 := NB279_271.out
                      have hnc73 := NB271_279.out
                      have hnb74 := NB279_283.out
                      have hnc74 := NB283_279.out
                      have hcz75_0 : wc.cell? ⟨gb279, 0, none⟩ = some (.int .i64 t272) := (blk_cell BK279.out 0).trans rfl
                      have hcz75_1 : wc.cell? ⟨gb279, 1, none⟩ = some (.int .i64 t273) := (blk_cell BK279.out 1).trans rfl
                      have hcz75_2 : wc.cell? ⟨gb279, 2, none⟩ = some (.int .i64 t274) := (blk_cell BK279.out 2).trans rfl
                      have hcz75_3 : wc.cell? ⟨gb279, 3, none⟩ = some (.int .i64 t275) := (blk_cell BK279.out 3).trans rfl
                      have hcz75_4 : wc.cell? ⟨gb279, 4, none⟩ = some (.int .i64 t276) := (blk_cell BK279.out 4).trans rfl
                      have hcz75_5 : wc.cell? ⟨gb279, 5, none⟩ = some (.int .i64 t277) := (blk_cell BK279.out 5).trans rfl
                      have hcz75_6 : wc.cell? ⟨gb279, 6, none⟩ = some (.int .i64 t278) := (blk_cell BK279.out 6).trans rfl
                      have hfz75_0 := blk_frozen BK279.out 0
                      have hfz75_1 := blk_frozen BK279.out 1
                      have hfz75_2 := blk_frozen BK279.out 2
                      have hfz75_3 := blk_frozen BK279.out 3
                      have hfz75_4 := blk_frozen BK279.out 4
                      have hfz75_5 := blk_frozen BK279.out 5
                      have hfz75_6 := blk_frozen BK279.out 6
                      have hnb76 := NB283_271.out
                      have hnc76 := NB271_283.out
                      have hcz77_0 : wc.cell? ⟨gb283, 0, none⟩ = some (.int .i64 t264) := (blk_cell BK283.out 0).trans rfl
                      have hcz77_1 : wc.cell? ⟨gb283, 1, none⟩ = some (.int .i64 t265) := (blk_cell BK283.out 1).trans rfl
                      have hcz77_2 : wc.cell? ⟨gb283, 2, none⟩ = some (.int .i64 t266) := (blk_cell BK283.out 2).trans rfl
                      have hcz77_3 : wc.cell? ⟨gb283, 3, none⟩ = some (.int .i64 t267) := (blk_cell BK283.out 3).trans rfl
                      have hcz77_4 : wc.cell? ⟨gb283, 4, none⟩ = some (.int .i64 x284004_60) := (blk_cell BK283.out 4).trans rfl
                      have hcz77_5 : wc.cell? ⟨gb283, 5, none⟩ = some (.int .i64 0) := (blk_cell BK283.out 5).trans rfl
                      have hcz77_6 : wc.cell? ⟨gb283, 6, none⟩ = some (.int .i64 t270) := (blk_cell BK283.out 6).trans rfl
                      have hfz77_0 := blk_frozen BK283.out 0
                      have hfz77_1 := blk_frozen BK283.out 1
                      have hfz77_2 := blk_frozen BK283.out 2
                      have hfz77_3 := blk_frozen BK283.out 3
                      have hfz77_4 := blk_frozen BK283.out 4
                      have hfz77_5 := blk_frozen BK283.out 5
                      have hfz77_6 := blk_frozen BK283.out 6
                      go_wp2
                      go_ret
                      exact ⟨by first | rfl | (simp [errW_none, errW_some] <;> rfl) | (simp [*, errW_none, errW_some] <;> rfl), by repeat (first | (with_reducible first | exact HB.out | apply below_alloc | apply pw_below_drewN | apply below_drew1 | refine below_set ?_ GE271.out | refine below_set ?_ GE279.out | refine below_set ?_ GE283.out) | exact HB.out)⟩
                · rw [if_neg c60] at H
                  have c60b0 : decide (t268 < 59) = false := decide_eq_false c60
                  clear c60
                  by_cases c78 : t277 = 0
                  · rw [if_pos c78] at H
                    have c78b0 : (t277 == 0) = true := beq_iff_eq.mpr c78
                    have c78b1 : (t277 != 0) = false := bne_eq_false_iff_eq.mpr c78
                    clear c78
                    by_cases c79 : t276 = 0
                    · rw [if_pos c79] at H
                      have c79b0 : (t276 == 0) = true := beq_iff_eq.mpr c79
                      have c79b1 : (t276 != 0) = false := bne_eq_false_iff_eq.mpr c79
                      clear c79
                      by_cases c80 : t275 = (wrap64 (t267 + 1))
                      · rw [if_pos c80] at H
                        have c80b0 : (t275 == (wrap64 (t267 + 1))) = true := beq_iff_eq.mpr c80
                        have c80b1 : (t275 != (wrap64 (t267 + 1))) = false := bne_eq_false_iff_eq.mpr c80
                        clear c80
                        obtain rfl := Option.some.inj H
                        have hnb81 := NB271_279.out
                        have hnc81 := NB279_271.out
                        have hcz82_0 : wc.cell? ⟨gb271, 0, none⟩ = some (.int .i64 t264) := (blk_cell BK271.out 0).trans rfl
                        have hcz82_1 : wc.cell? ⟨gb271, 1, none⟩ = some (.int .i64 t265) := (blk_cell BK271.out 1).trans rfl
                        have hcz82_2 : wc.cell? ⟨gb271, 2, none⟩ = some (.int .i64 t266) := (blk_cell BK271.out 2).trans rfl
                        have hcz82_3 : wc.cell? ⟨gb271, 3, none⟩ = some (.int .i64 t267) := (blk_cell BK271.out 3).trans rfl
                        have hcz82_4 : wc.cell? ⟨gb271, 4, none⟩ = some (.int .i64 t268) := (blk_cell BK271.out 4).trans rfl
                        have hcz82_5 : wc.cell? ⟨gb271, 5, none⟩ = some (.int .i64 t269) := (blk_cell BK271.out 5).trans rfl
                        have hcz82_6 : wc.cell? ⟨gb271, 6, none⟩ = some (.int .i64 t270) := (blk_cell BK271.out 6).trans rfl
                        have hfz82_0 := blk_frozen BK271.out 0
                        have hfz82_1 := blk_frozen BK271.out 1
                        have hfz82_2 := blk_frozen BK271.out 2
                        have hfz82_3 := blk_frozen BK271.out 3
                        have hfz82_4 := blk_frozen BK271.out 4
                        have hfz82_5 := blk_frozen BK271.out 5
                        have hfz82_6 := blk_frozen BK271.out 6
                        have hcz83_0 : wc.cell? ⟨gb279, 0, none⟩ = some (.int .i64 t272) := (blk_cell BK279.out 0).trans rfl
                        have hcz83_1 : wc.cell? ⟨gb279, 1, none⟩ = some (.int .i64 t273) := (blk_cell BK279.out 1).trans rfl
                        have hcz83_2 : wc.cell? ⟨gb279, 2, none⟩ = some (.int .i64 t274) := (blk_cell BK279.out 2).trans rfl
                        have hcz83_3 : wc.cell? ⟨gb279, 3, none⟩ = some (.int .i64 t275) := (blk_cell BK279.out 3).trans rfl
                        have hcz83_4 : wc.cell? ⟨gb279, 4, none⟩ = some (.int .i64 t276) := (blk_cell BK279.out 4).trans rfl
                        have hcz83_5 : wc.cell? ⟨gb279, 5, none⟩ = some (.int .i64 t277) := (blk_cell BK279.out 5).trans rfl
                        have hcz83_6 : wc.cell? ⟨gb279, 6, none⟩ = some (.int .i64 t278) := (blk_cell BK279.out 6).trans rfl
                        have hfz83_0 := blk_frozen BK279.out 0
                        have hfz83_1 := blk_frozen BK279.out 1
                        have hfz83_2 := blk_frozen BK279.out 2
                        have hfz83_3 := blk_frozen BK279.out 3
                        have hfz83_4 := blk_frozen BK279.out 4
                        have hfz83_5 := blk_frozen BK279.out 5
                        have hfz83_6 := blk_frozen BK279.out 6
                        go_wp2
                        go_ret
                        exact ⟨by first | rfl | (simp [errW_none, errW_some] <;> rfl) | (simp [*, errW_none, errW_some] <;> rfl), by repeat (first | (with_reducible first | exact HB.out | apply below_alloc | apply pw_below_drewN | apply below_drew1 | refine below_set ?_ GE271.out | refine below_set ?_ GE279.out) | exact HB.out)⟩
                      · rw [if_neg c80] at H
                        have c80b0 : (t275 == (wrap64 (t267 + 1))) = false := beq_eq_false_iff_ne.mpr c80
                        have c80b1 : (t275 != (wrap64 (t267 + 1))) = true := bne_iff_ne.mpr c80
                        by_cases c84 : t267 = 23
                        · rw [if_pos c84] at H
                          have c84b0 : (t267 == 23) = true := beq_iff_eq.mpr c84
                          have c84b1 : (t267 != 23) = false := bne_eq_false_iff_eq.mpr c84
                          clear c84
                          by_cases c85 : t275 = 0
                          · rw [if_pos c85] at H
                            have c85b0 : (t275 == 0) = true := beq_iff_eq.mpr c85
                            have c85b1 : (t275 != 0) = false := bne_eq_false_iff_eq.mpr c85
                            clear c85
                            obtain rfl := Option.some.inj H
                            have hnb86 := NB271_279.out
                            have hnc86 := NB279_271.out
                            have hcz87_0 : wc.cell? ⟨gb271, 0, none⟩ = some (.int .i64 t264) := (blk_cell BK271.out 0).trans rfl
                            have hcz87_1 : wc.cell? ⟨gb271, 1, none⟩ = some (.int .i64 t265) := (blk_cell BK271.out 1).trans rfl
                            have hcz87_2 : wc.cell? ⟨gb271, 2, none⟩ = some (.int .i64 t266) := (blk_cell BK271.out 2).trans rfl
                            have hcz87_3 : wc.cell? ⟨gb271, 3, none⟩ = some (.int .i64 t267) := (blk_cell BK271.out 3).trans rfl
                            have hcz87_4 : wc.cell? ⟨gb271, 4, none⟩ = some (.int .i64 t268) := (blk_cell BK271.out 4).trans rfl
                            have hcz87_5 : wc.cell? ⟨gb271, 5, none⟩ = some (.int .i64 t269) := (blk_cell BK271.out 5).trans rfl
                            have hcz87_6 : wc.cell? ⟨gb271, 6, none⟩ = some (.int .i64 t270) := (blk_cell BK271.out 6).trans rfl
                            have hfz87_0 := blk_frozen BK271.out 0
                            have hfz87_1 := blk_frozen BK271.out 1
                            have hfz87_2 := blk_frozen BK271.out 2
                            have hfz87_3 := blk_frozen BK271.out 3
                            have hfz87_4 := blk_frozen BK271.out 4
                            have hfz87_5 := blk_frozen BK271.out 5
                            have hfz87_6 := blk_frozen BK271.out 6
                            have hcz88_0 : wc.cell? ⟨gb279, 0, none⟩ = some (.int .i64 t272) := (blk_cell BK279.out 0).trans rfl
                            have hcz88_1 : wc.cell? ⟨gb279, 1, none⟩ = some (.int .i64 t273) := (blk_cell BK279.out 1).trans rfl
                            have hcz88_2 : wc.cell? ⟨gb279, 2, none⟩ = some (.int .i64 t274) := (blk_cell BK279.out 2).trans rfl
                            have hcz88_3 : wc.cell? ⟨gb279, 3, none⟩ = some (.int .i64 t275) := (blk_cell BK279.out 3).trans rfl
                            have hcz88_4 : wc.cell? ⟨gb279, 4, none⟩ = some (.int .i64 t276) := (blk_cell BK279.out 4).trans rfl
                            have hcz88_5 : wc.cell? ⟨gb279, 5, none⟩ = some (.int .i64 t277) := (blk_cell BK279.out 5).trans rfl
                            have hcz88_6 : wc.cell? ⟨gb279, 6, none⟩ = some (.int .i64 t278) := (blk_cell BK279.out 6).trans rfl
                            have hfz88_0 := blk_frozen BK279.out 0
                            have hfz88_1 := blk_frozen BK279.out 1
                            have hfz88_2 := blk_frozen BK279.out 2
                            have hfz88_3 := blk_frozen BK279.out 3
                            have hfz88_4 := blk_frozen BK279.out 4
                            have hfz88_5 := blk_frozen BK279.out 5
                            have hfz88_6 := blk_frozen BK279.out 6
                            go_wp2
                            go_ret
                            exact ⟨by first | rfl | (simp [errW_none, errW_some] <;> rfl) | (simp [*, errW_none, errW_some] <;> rfl), by repeat (first | (with_reducible first | exact HB.out | apply below_alloc | apply pw_below_drewN | apply below_drew1 | refine below_set ?_ GE271.out | refine below_set ?_ GE279.out) | exact HB.out)⟩
                          · rw [if_neg c85] at H
                            exact absurd H (by simp)
                        · rw [if_neg c84] at H
                          exact absurd H (by simp)
                    · rw [if_neg c79] at H
                      exact absurd H (by simp)
                  · rw [if_neg c78] at H
                    exact absurd H (by simp)

/-- THE ONE PURE STATEMENT of zoneinfolaw05_DatetimeFields: yours. -/
def zoneinfolaw05_DatetimeFields.Pure : Prop := ∀ (a0 : Int), (Lit.int .i64 a0).wf = true → ∃ k, zoneinfolaw05_DatetimeFields.f k a0 = some true
theorem zoneinfolaw05_DatetimeFields.walk (P : zoneinfolaw05_DatetimeFields.Pure) (a0 : Int) (w : World) (hgl : GL w) (w0 : (Lit.int .i64 a0).wf = true) :
    Calls Tryd.prog 7 #[.int .i64 a0] w fun e w' => e = .returned (.bool true) ∧ Below w.heap.size w w' := by
  obtain ⟨k, h⟩ := P a0 w0
  refine (zoneinfolaw05_DatetimeFields.calls k a0 true w hgl h).mono ?_
  rintro e w' ⟨rfl, hd⟩
  exact ⟨rfl, hd⟩

end Go.Proofs.YtmfffkmnddeajaaDoor.G
