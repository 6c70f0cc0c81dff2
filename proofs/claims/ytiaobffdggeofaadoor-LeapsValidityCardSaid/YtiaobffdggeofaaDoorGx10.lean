/- Written by a program of this session for this seat: contracts of the functions that its laws reach, or the row of a law over its plain part. -/
import Derived.Test.YtiaobffdggeofaaDoorGx0
import Derived.Test.YtiaobffdggeofaaDoorGx4
import Derived.Test.YtiaobffdggeofaaDoorGx5
namespace Go.Proofs.YtiaobffdggeofaaDoor.G
open Go.RowKit Go.Proofs.YtiaobffdggeofaaDoorW.PrintWords Go.Proofs.YtiaobffdggeofaaDoorW.PrintLast Go.Proofs.YtiaobffdggeofaaDoorW.PrintMore
attribute [local go_sem] max2_int min2_int max_two min_two max_three min_three max_four min_four   -- for this text's walks alone
set_option linter.unusedVariables false
set_option linter.unusedSimpArgs false

/-! ### zoneinfolaw17_LeapsValidity: function 5 -/
mutual
def zoneinfolaw17_LeapsValidity.j0 : Nat → List (S38) → Int → Bool → Option (Bool)
  | 0, _, _, _ => none
  | k + 1, x0, x1, x16 => if x16 = true then ((zoneinfolaw17_awake.f k).bind fun t298 => (some t298)) else ((leaps_Valid.f x0 3).bind fun t299 => ((leaps_Valid.f x0 4).bind fun t300 => ((leaps_Valid.f x0 1).bind fun t301 => (if (t301 != t299) = true then (zoneinfolaw17_LeapsValidity.j1 k x0 x1 t300 true) else ((leaps_Valid.f x0 2).bind fun t302 => (if (t302 != t299) = true then (zoneinfolaw17_LeapsValidity.j1 k x0 x1 t300 true) else (if t299 = true then (if t300 = true then ((leaps_NeedsV4.f x0).bind fun t303 => (zoneinfolaw17_LeapsValidity.j1 k x0 x1 t300 (t303 != (!t299)))) else (zoneinfolaw17_LeapsValidity.j1 k x0 x1 t300 true)) else ((leaps_NeedsV4.f x0).bind fun t304 => (if t300 = true then (zoneinfolaw17_LeapsValidity.j1 k x0 x1 t300 (t304 != (!t299))) else (zoneinfolaw17_LeapsValidity.j1 k x0 x1 t300 (t304 != false)))))))))))
def zoneinfolaw17_LeapsValidity.j1 : Nat → List (S38) → Int → Bool → Bool → Option (Bool)
  | 0, _, _, _, _ => none
  | k + 1, x0, x1, x6, x48 => if x48 = true then (none) else (if x6 = true then (zoneinfolaw17_LeapsValidity.j2 k x0 x1 (decide ((x0.length : Int) < 2))) else (zoneinfolaw17_LeapsValidity.j2 k x0 x1 true))
def zoneinfolaw17_LeapsValidity.j2 : Nat → List (S38) → Int → Bool → Option (Bool)
  | 0, _, _, _ => none
  | k + 1, x0, x1, x55 => if x55 = true then (some true) else (if (x0.length : Int) = 0 then (none) else (if 0 ≤ (Int.tmod (wrap64 (x1)) (x0.length : Int)) then (if (Int.tmod (wrap64 (x1)) (x0.length : Int)) ≤ (x0.length : Int) then ((leaps_Valid.f (x0.take ((Int.tmod (wrap64 (x1)) (x0.length : Int)) : Int).toNat) 4).bind fun t309 => (if t309 = true then ((some (([] : List (S38)) : List (S38))).bind fun y310 => (if y310.length + x0.length < 8796093022208 then ((some (y310 ++ x0 : List (S38))).bind fun y313 => (if (wrap64 ((x0.length : Int) - 1)) = 0 then (none) else (if 0 ≤ (wrap64 ((Int.tmod (Int.tmod (wrap64 (x1)) (x0.length : Int)) (wrap64 ((x0.length : Int) - 1))) + 1)) then (if (wrap64 ((Int.tmod (Int.tmod (wrap64 (x1)) (x0.length : Int)) (wrap64 ((x0.length : Int) - 1))) + 1)) < (x0.length : Int) then (if 0 ≤ (Int.tmod (Int.tmod (wrap64 (x1)) (x0.length : Int)) (wrap64 ((x0.length : Int) - 1))) then (if (Int.tmod (Int.tmod (wrap64 (x1)) (x0.length : Int)) (wrap64 ((x0.length : Int) - 1))) < (y313.length : Int) then (if (Int.tmod (Int.tmod (wrap64 (x1)) (x0.length : Int)) (wrap64 ((x0.length : Int) - 1))) < (x0.length : Int) then (if (wrap64 ((Int.tmod (Int.tmod (wrap64 (x1)) (x0.length : Int)) (wrap64 ((x0.length : Int) - 1))) + 1)) < (y313.length : Int) then ((leaps_Valid.f ((y313.set ((Int.tmod (Int.tmod (wrap64 (x1)) (x0.length : Int)) (wrap64 ((x0.length : Int) - 1))) : Int).toNat (⟨(rd_T38 x0 (wrap64 ((Int.tmod (Int.tmod (wrap64 (x1)) (x0.length : Int)) (wrap64 ((x0.length : Int) - 1))) + 1))).f0, (rd_T38 x0 (wrap64 ((Int.tmod (Int.tmod (wrap64 (x1)) (x0.length : Int)) (wrap64 ((x0.length : Int) - 1))) + 1))).f1⟩ : S38)).set ((wrap64 ((Int.tmod (Int.tmod (wrap64 (x1)) (x0.length : Int)) (wrap64 ((x0.length : Int) - 1))) + 1)) : Int).toNat (⟨(rd_T38 x0 (Int.tmod (Int.tmod (wrap64 (x1)) (x0.length : Int)) (wrap64 ((x0.length : Int) - 1)))).f0, (rd_T38 x0 (Int.tmod (Int.tmod (wrap64 (x1)) (x0.length : Int)) (wrap64 ((x0.length : Int) - 1)))).f1⟩ : S38)) 4).bind fun t320 => (some (!t320))) else (none)) else (none)) else (none)) else (none)) else (none)) else (none)))) else (none))) else (none))) else (none)) else (none)))
end
def zoneinfolaw17_LeapsValidity.f (k : Nat) (l0 : List (S38)) (a1 : Int) : Option (Bool) := (zoneinfolaw17_awake.f k).bind fun t297 => (if t297 = true then (zoneinfolaw17_LeapsValidity.j0 k l0 a1 (decide ((l0.length : Int) > 100))) else (zoneinfolaw17_LeapsValidity.j0 k l0 a1 true))
theorem zoneinfolaw17_LeapsValidity.mono_l : ∀ k, (∀ y0 y1 y2, LeO (zoneinfolaw17_LeapsValidity.j0 k y0 y1 y2) (zoneinfolaw17_LeapsValidity.j0 (k + 1) y0 y1 y2)) ∧ (∀ y0 y1 y2 y3, LeO (zoneinfolaw17_LeapsValidity.j1 k y0 y1 y2 y3) (zoneinfolaw17_LeapsValidity.j1 (k + 1) y0 y1 y2 y3)) ∧ (∀ y0 y1 y2, LeO (zoneinfolaw17_LeapsValidity.j2 k y0 y1 y2) (zoneinfolaw17_LeapsValidity.j2 (k + 1) y0 y1 y2))
  | 0 => ⟨fun _ _ _ r h => by simp [zoneinfolaw17_LeapsValidity.j0] at h, fun _ _ _ _ r h => by simp [zoneinfolaw17_LeapsValidity.j1] at h, fun _ _ _ r h => by simp [zoneinfolaw17_LeapsValidity.j2] at h⟩
  | k + 1 => by
    obtain ⟨ih0, ih1, ih2⟩ := zoneinfolaw17_LeapsValidity.mono_l k
    refine ⟨?_, ?_, ?_⟩
    · intro y0 y1 y2
      unfold zoneinfolaw17_LeapsValidity.j0
      repeat' first
      | (with_reducible exact ih0 _ _ _)
      | (with_reducible exact ih1 _ _ _ _)
      | (with_reducible exact ih2 _ _ _)
      | (with_reducible exact zoneinfolaw17_awake.mono _)
      | (with_reducible exact LeO.refl _)
      | (with_reducible exact LeO.none _)
      | (with_reducible refine LeO.ite ?_ ?_)
      | (with_reducible refine LeO.bind ?_ (fun _ => ?_))
      | exact ih0 _ _ _
      | exact ih1 _ _ _ _
      | exact ih2 _ _ _
      | exact zoneinfolaw17_awake.mono _
      | exact LeO.none _
      | refine LeO.ite ?_ ?_
      | refine LeO.bind ?_ (fun _ => ?_)
    · intro y0 y1 y2 y3
      unfold zoneinfolaw17_LeapsValidity.j1
      repeat' first
      | (with_reducible exact ih0 _ _ _)
      | (with_reducible exact ih1 _ _ _ _)
      | (with_reducible exact ih2 _ _ _)
      | (with_reducible exact zoneinfolaw17_awake.mono _)
      | (with_reducible exact LeO.refl _)
      | (with_reducible exact LeO.none _)
      | (with_reducible refine LeO.ite ?_ ?_)
      | (with_reducible refine LeO.bind ?_ (fun _ => ?_))
      | exact ih0 _ _ _
      | exact ih1 _ _ _ _
      | exact ih2 _ _ _
      | exact zoneinfolaw17_awake.mono _
      | exact LeO.none _
      | refine LeO.ite ?_ ?_
      | refine LeO.bind ?_ (fun _ => ?_)
    · intro y0 y1 y2
      unfold zoneinfolaw17_LeapsValidity.j2
      repeat' first
      | (with_reducible exact ih0 _ _ _)
      | (with_reducible exact ih1 _ _ _ _)
      | (with_reducible exact ih2 _ _ _)
      | (with_reducible exact zoneinfolaw17_awake.mono _)
      | (with_reducible exact LeO.refl _)
      | (with_reducible exact LeO.none _)
      | (with_reducible refine LeO.ite ?_ ?_)
      | (with_reducible refine LeO.bind ?_ (fun _ => ?_))
      | exact ih0 _ _ _
      | exact ih1 _ _ _ _
      | exact ih2 _ _ _
      | exact zoneinfolaw17_awake.mono _
      | exact LeO.none _
      | refine LeO.ite ?_ ?_
      | refine LeO.bind ?_ (fun _ => ?_)
theorem zoneinfolaw17_LeapsValidity.mono : ∀ a0 a1 k, LeO (zoneinfolaw17_LeapsValidity.f k a0 a1) (zoneinfolaw17_LeapsValidity.f (k + 1) a0 a1) := by
  intro a0 a1 k
  obtain ⟨ih0, ih1, ih2⟩ := zoneinfolaw17_LeapsValidity.mono_l k
  unfold zoneinfolaw17_LeapsValidity.f
  repeat' first
      | (with_reducible exact ih0 _ _ _)
      | (with_reducible exact ih1 _ _ _ _)
      | (with_reducible exact ih2 _ _ _)
      | (with_reducible exact zoneinfolaw17_awake.mono _)
      | (with_reducible exact LeO.refl _)
      | (with_reducible exact LeO.none _)
      | (with_reducible refine LeO.ite ?_ ?_)
      | (with_reducible refine LeO.bind ?_ (fun _ => ?_))
      | exact ih0 _ _ _
      | exact ih1 _ _ _ _
      | exact ih2 _ _ _
      | exact zoneinfolaw17_awake.mono _
      | exact LeO.none _
      | refine LeO.ite ?_ ?_
      | refine LeO.bind ?_ (fun _ => ?_)
set_option maxHeartbeats 8000000 in
set_option maxRecDepth 100000 in
theorem zoneinfolaw17_LeapsValidity.calls (k : Nat) (A0 : Option Addr) (c0 : Nat) (l0 : List (S38)) (a1 : Int) (r : Bool) (w : World) (hr0 : Kd.C k38 w A0 l0.length l0) (hc0 : l0.length ≤ c0) (hrg : GL w) (h : zoneinfolaw17_LeapsValidity.f k l0 a1 = some r) :
    Calls Tryd.prog 5 #[.slice A0 l0.length c0, .int .u8 a1] w fun e w' => e = .returned (.bool r) ∧ Below w.heap.size w w' := by
  have hu38 := Tryd.underlying38
  have HRg := Aside0.mk hrg
  clear hrg
  have HR0 := Aside0.mk hr0
  have HC0 := Aside0.mk hc0
  clear hr0 hc0
  have HB := Aside0.mk (Below.refl w.heap.size w)
  have H : ((zoneinfolaw17_awake.f k).bind fun t297 => (if t297 = true then (zoneinfolaw17_LeapsValidity.j0 k l0 a1 (decide ((l0.length : Int) > 100))) else (zoneinfolaw17_LeapsValidity.j0 k l0 a1 true))) = some r := h
  clear h
  have HC3 := Aside0.mk H
  clear H
  go_enter Tryd.func5, Tryd.ntmps5
  (try simp only [List.append_eq, List.cons_append, List.nil_append])
  go_upto_region 1 with (fail)
  go_cut [16] (fun v16 wc => ∃ (kq : Nat) (x16_2 : Bool), v16 = .bool x16_2 ∧ Aside0 (zoneinfolaw17_LeapsValidity.j0 kq l0 a1 x16_2 = some r) ∧ Aside0 (kq ≤ k) ∧ Aside0 (Below w.heap.size w wc))
  case first =>
    have H := HC3.out
    clear HC3
    replace H := Option.bind_eq_some_iff.mp H
    obtain ⟨t297, A40, H⟩ := H
    replace H : (if t297 = true then (zoneinfolaw17_LeapsValidity.j0 k l0 a1 (decide ((l0.length : Int) > 100))) else (zoneinfolaw17_LeapsValidity.j0 k l0 a1 true)) = some r := H
    have A4 := Aside0.mk A40
    clear A40
    by_cases c5 : t297 = true
    · subst c5
      have H1 : (zoneinfolaw17_LeapsValidity.j0 k l0 a1 (decide ((l0.length : Int) > 100))) = some r := by rw [if_pos rfl] at H; exact H
      clear H
      have H := H1
      clear H1
      have H' := Aside0.mk H
      clear H
      go_wp2_with (first | (go_at_call 7; (with_reducible refine (zoneinfolaw17_awake.calls k  true _ ?side1 A4.out).mono ?_); (case side1 => repeat (first | exact (Kd.C_below HRg.out HB.out) | (with_reducible refine Kd.C_alloc ?_ _) | (with_reducible refine Kd.C_drewN ?_ _) | (with_reducible refine Kd.C_drew ?_))); rintro e w6 ⟨rfl, hb⟩; have n0_ := Aside0.mk (below_step (by repeat (first | (with_reducible first | exact HB.out | apply below_alloc | apply pw_below_drewN | apply below_drew1) | exact HB.out)) hb); clear HB; have HB := n0_; clear n0_; (try clear hb); (try clear hb2); (try clear hk); (try clear hi)))
      go_meet
      case rel => exact ⟨_, (decide ((l0.length : Int) > 100)), (by first | rfl | (simp; done) | (simp [*]; done)), H', ⟨by first | omega | exact Nat.le_refl _⟩, ⟨by repeat (first | (with_reducible first | exact HB.out | apply below_alloc | apply pw_below_drewN | apply below_drew1) | exact HB.out)⟩⟩
    · replace c5 := Bool.eq_false_iff.mpr c5
      subst c5
      have H1 : (zoneinfolaw17_LeapsValidity.j0 k l0 a1 true) = some r := by rw [if_neg (show ¬ (false = true) by decide)] at H; exact H
      clear H
      have H := H1
      clear H1
      have H' := Aside0.mk H
      clear H
      go_wp2_with (first | (go_at_call 7; (with_reducible refine (zoneinfolaw17_awake.calls k  false _ ?side1 A4.out).mono ?_); (case side1 => repeat (first | exact (Kd.C_below HRg.out HB.out) | (with_reducible refine Kd.C_alloc ?_ _) | (with_reducible refine Kd.C_drewN ?_ _) | (with_reducible refine Kd.C_drew ?_))); rintro e w7 ⟨rfl, hb⟩; have n0_ := Aside0.mk (below_step (by repeat (first | (with_reducible first | exact HB.out | apply below_alloc | apply pw_below_drewN | apply below_drew1) | exact HB.out)) hb); clear HB; have HB := n0_; clear n0_; (try clear hb); (try clear hb2); (try clear hk); (try clear hi)))
      go_meet
      case rel => exact ⟨_, (true), (by first | rfl | (simp; done) | (simp [*]; done)), H', ⟨by first | omega | exact Nat.le_refl _⟩, ⟨by repeat (first | (with_reducible first | exact HB.out | apply below_alloc | apply pw_below_drewN | apply below_drew1) | exact HB.out)⟩⟩
  case rest =>
    clear HC3
    try clear p2
    try clear c5
    obtain ⟨kq, x16_2, rfl, HA, HJ2, HB⟩ := hcut
    cases kq with
    | zero => exact absurd HA.out (by simp [zoneinfolaw17_LeapsValidity.j0])
    | succ kj2 =>
      have H := HA.out
      clear HA
      simp only [zoneinfolaw17_LeapsValidity.j0] at H
      by_cases c8 : x16_2 = true
      · subst c8
        have H1 : ((zoneinfolaw17_awake.f kj2).bind fun t298 => (some t298)) = some r := by rw [if_pos rfl] at H; exact H
        clear H
        have H := H1
        clear H1
        replace H := Option.bind_eq_some_iff.mp H
        obtain ⟨t298, A90, H⟩ := H
        replace H : (some t298) = some r := H
        have A9 := Aside0.mk A90
        clear A90
        obtain rfl := Option.some.inj H
        go_wp2_with (first | ((with_reducible refine gate_callee (f := 7) rfl ?_); refine goesL_ (some 17) rfl rfl Tryd.func7 (by kernel_rfl) rfl #[] rfl (by (try simp only [List.map_toArray, List.map_cons, List.map_nil]); first | done | rfl | (simp only [List.length_drop, List.length_take]; rfl)) ?_; (with_reducible refine (zoneinfolaw17_awake.calls kj2  t298 _ ?side1 A9.out).mono ?_); (case side1 => repeat (first | exact (Kd.C_below HRg.out HB.out) | (with_reducible refine Kd.C_alloc ?_ _) | (with_reducible refine Kd.C_drewN ?_ _) | (with_reducible refine Kd.C_drew ?_))); rintro e w10 ⟨rfl, hb⟩; refine ⟨_, rfl, ?_⟩; have n0_ := Aside0.mk (below_step (by repeat (first | (with_reducible first | exact HB.out | apply below_alloc | apply pw_below_drewN | apply below_drew1) | exact HB.out)) hb); clear HB; have HB := n0_; clear n0_; (try clear hb); (try clear hb2); (try clear hk); (try clear hi)))
        go_ret
        exact ⟨by first | rfl | (simp [errW_none, errW_some] <;> rfl) | (simp [*, errW_none, errW_some] <;> rfl), by repeat (first | (with_reducible first | exact HB.out | apply below_alloc | apply pw_below_drewN | apply below_drew1) | exact HB.out)⟩
      · replace c8 := Bool.eq_false_iff.mpr c8
        subst c8
        have H1 : ((leaps_Valid.f l0 3).bind fun t299 => ((leaps_Valid.f l0 4).bind fun t300 => ((leaps_Valid.f l0 1).bind fun t301 => (if (t301 != t299) = true then (zoneinfolaw17_LeapsValidity.j1 kj2 l0 a1 t300 true) else ((leaps_Valid.f l0 2).bind fun t302 => (if (t302 != t299) = true then (zoneinfolaw17_LeapsValidity.j1 kj2 l0 a1 t300 true) else (if t299 = true then (if t300 = true then ((leaps_NeedsV4.f l0).bind fun t303 => (zoneinfolaw17_LeapsValidity.j1 kj2 l0 a1 t300 (t303 != (!t299)))) else (zoneinfolaw17_LeapsValidity.j1 kj2 l0 a1 t300 true)) else ((leaps_NeedsV4.f l0).bind fun t304 => (if t300 = true then (zoneinfolaw17_LeapsValidity.j1 kj2 l0 a1 t300 (t304 != (!t299))) else (zoneinfolaw17_LeapsValidity.j1 kj2 l0 a1 t300 (t304 != false))))))))))) = some r := by rw [if_neg (show ¬ (false = true) by decide)] at H; exact H
        clear H
        have H := H1
        clear H1
        replace H := Option.bind_eq_some_iff.mp H
        obtain ⟨t299, A110, H⟩ := H
        replace H : ((leaps_Valid.f l0 4).bind fun t300 => ((leaps_Valid.f l0 1).bind fun t301 => (if (t301 != t299) = true then (zoneinfolaw17_LeapsValidity.j1 kj2 l0 a1 t300 true) else ((leaps_Valid.f l0 2).bind fun t302 => (if (t302 != t299) = true then (zoneinfolaw17_LeapsValidity.j1 kj2 l0 a1 t300 true) else (if t299 = true then (if t300 = true then ((leaps_NeedsV4.f l0).bind fun t303 => (zoneinfolaw17_LeapsValidity.j1 kj2 l0 a1 t300 (t303 != (!t299)))) else (zoneinfolaw17_LeapsValidity.j1 kj2 l0 a1 t300 true)) else ((leaps_NeedsV4.f l0).bind fun t304 => (if t300 = true then (zoneinfolaw17_LeapsValidity.j1 kj2 l0 a1 t300 (t304 != (!t299))) else (zoneinfolaw17_LeapsValidity.j1 kj2 l0 a1 t300 (t304 != false)))))))))) = some r := H
        have A11 := Aside0.mk A110
        clear A110
        replace H := Option.bind_eq_some_iff.mp H
        obtain ⟨t300, A120, H⟩ := H
        replace H : ((leaps_Valid.f l0 1).bind fun t301 => (if (t301 != t299) = true then (zoneinfolaw17_LeapsValidity.j1 kj2 l0 a1 t300 true) else ((leaps_Valid.f l0 2).bind fun t302 => (if (t302 != t299) = true then (zoneinfolaw17_LeapsValidity.j1 kj2 l0 a1 t300 true) else (if t299 = true then (if t300 = true then ((leaps_NeedsV4.f l0).bind fun t303 => (zoneinfolaw17_LeapsValidity.j1 kj2 l0 a1 t300 (t303 != (!t299)))) else (zoneinfolaw17_LeapsValidity.j1 kj2 l0 a1 t300 true)) else ((leaps_NeedsV4.f l0).bind fun t304 => (if t300 = true then (zoneinfolaw17_LeapsValidity.j1 kj2 l0 a1 t300 (t304 != (!t299))) else (zoneinfolaw17_LeapsValidity.j1 kj2 l0 a1 t300 (t304 != false))))))))) = some r := H
        have A12 := Aside0.mk A120
        clear A120
        have HC13 := Aside0.mk H
        clear H
        go_upto_region 5 with (first | ((with_reducible refine gate_callee (f := 15) rfl ?_); refine goesL_ (some 19) rfl rfl Tryd.func15 (by kernel_rfl) rfl #[.slice A0 l0.length c0, .int .i64 3] rfl (by (try simp only [List.map_toArray, List.map_cons, List.map_nil]); first | done | rfl | (simp only [List.length_drop, List.length_take]; rfl)) ?_; (with_reducible refine (leaps_Valid.calls _ _ l0 3 t299 _ ?side1 ?side2 ?side3 A11.out).mono ?_); (case side1 => repeat (first | exact (Kd.C_below HR0.out HB.out) | (with_reducible refine Kd.C_alloc ?_ _) | (with_reducible refine Kd.C_drewN ?_ _) | (with_reducible refine Kd.C_drew ?_))); (case side2 => exact HC0.out); (case side3 => repeat (first | exact (Kd.C_below HRg.out HB.out) | (with_reducible refine Kd.C_alloc ?_ _) | (with_reducible refine Kd.C_drewN ?_ _) | (with_reducible refine Kd.C_drew ?_))); rintro e w14 ⟨rfl, hb⟩; refine ⟨_, rfl, ?_⟩; have n0_ := Aside0.mk (below_step (by repeat (first | (with_reducible first | exact HB.out | apply below_alloc | apply pw_below_drewN | apply below_drew1) | exact HB.out)) hb); clear HB; have HB := n0_; clear n0_; (try clear hb); (try clear hb2); (try clear hk); (try clear hi)) | ((with_reducible refine gate_callee (f := 15) rfl ?_); refine goesL_ (some 21) rfl rfl Tryd.func15 (by kernel_rfl) rfl #[.slice A0 l0.length c0, .int .i64 4] rfl (by (try simp only [List.map_toArray, List.map_cons, List.map_nil]); first | done | rfl | (simp only [List.length_drop, List.length_take]; rfl)) ?_; (with_reducible refine (leaps_Valid.calls _ _ l0 4 t300 _ ?side1 ?side2 ?side3 A12.out).mono ?_); (case side1 => repeat (first | exact (Kd.C_below HR0.out HB.out) | (with_reducible refine Kd.C_alloc ?_ _) | (with_reducible refine Kd.C_drewN ?_ _) | (with_reducible refine Kd.C_drew ?_))); (case side2 => exact HC0.out); (case side3 => repeat (first | exact (Kd.C_below HRg.out HB.out) | (with_reducible refine Kd.C_alloc ?_ _) | (with_reducible refine Kd.C_drewN ?_ _) | (with_reducible refine Kd.C_drew ?_))); rintro e w15 ⟨rfl, hb⟩; refine ⟨_, rfl, ?_⟩; have n0_ := Aside0.mk (below_step (by repeat (first | (with_reducible first | exact HB.out | apply below_alloc | apply pw_below_drewN | apply below_drew1) | exact HB.out)) hb); clear HB; have HB := n0_; clear n0_; (try clear hb); (try clear hb2); (try clear hk); (try clear hi)))
        (try simp only [Act.put, List.setIfInBounds_toArray, List.set_cons_zero, List.set_cons_succ])
        go_cut [48] (fun v48 wc => ∃ (kq : Nat) (x48_12 : Bool), v48 = .bool x48_12 ∧ Aside0 (zoneinfolaw17_LeapsValidity.j1 kq l0 a1 t300 x48_12 = some r) ∧ Aside0 (kq ≤ kj2) ∧ Aside0 (Below w.heap.size w wc))
        case first =>
          have H := HC13.out
          clear HC13
          replace H := Option.bind_eq_some_iff.mp H
          obtain ⟨t301, A160, H⟩ := H
          replace H : (if (t301 != t299) = true then (zoneinfolaw17_LeapsValidity.j1 kj2 l0 a1 t300 true) else ((leaps_Valid.f l0 2).bind fun t302 => (if (t302 != t299) = true then (zoneinfolaw17_LeapsValidity.j1 kj2 l0 a1 t300 true) else (if t299 = true then (if t300 = true then ((leaps_NeedsV4.f l0).bind fun t303 => (zoneinfolaw17_LeapsValidity.j1 kj2 l0 a1 t300 (t303 != (!t299)))) else (zoneinfolaw17_LeapsValidity.j1 kj2 l0 a1 t300 true)) else ((leaps_NeedsV4.f l0).bind fun t304 => (if t300 = true then (zoneinfolaw17_LeapsValidity.j1 kj2 l0 a1 t300 (t304 != (!t299))) else (zoneinfolaw17_LeapsValidity.j1 kj2 l0 a1 t300 (t304 != false)))))))) = some r := H
          have A16 := Aside0.mk A160
          clear A160
          by_cases c17 : (t301 != t299) = true
          · rw [if_pos c17] at H
            have c17b0 : (t301 != t299) = true := c17
            (try (have c17b1 : decide (t301 = t299) = false := by simpa using c17))
            (try (have c17b2 : (t301 == t299) = false := by simpa using c17))
            (try (have c17b3 : ¬ (t301 = t299) := by simpa using c17))
            clear c17
            (first | rw [c17b0] | (simp only [i64_w, i32_w]; rw [c17b0]) | skip)
            have H' := Aside0.mk H
            clear H
            go_wp2_with (first | (go_at_call 15; (with_reducible refine (leaps_Valid.calls _ _ l0 1 t301 _ ?side1 ?side2 ?side3 A16.out).mono ?_); (case side1 => repeat (first | exact (Kd.C_below HR0.out HB.out) | (with_reducible refine Kd.C_alloc ?_ _) | (with_reducible refine Kd.C_drewN ?_ _) | (with_reducible refine Kd.C_drew ?_))); (case side2 => exact HC0.out); (case side3 => repeat (first | exact (Kd.C_below HRg.out HB.out) | (with_reducible refine Kd.C_alloc ?_ _) | (with_reducible refine Kd.C_drewN ?_ _) | (with_reducible refine Kd.C_drew ?_))); rintro e w18 ⟨rfl, hb⟩; have n0_ := Aside0.mk (below_step (by repeat (first | (with_reducible first | exact HB.out | apply below_alloc | apply pw_below_drewN | apply below_drew1) | exact HB.out)) hb); clear HB; have HB := n0_; clear n0_; (try clear hb); (try clear hb2); (try clear hk); (try clear hi)))
            go_meet
            case rel => exact ⟨_, (true), (by first | rfl | (simp; done) | (simp [*]; done)), H', ⟨by have := HJ2.out; first | omega | exact Nat.le_refl _⟩, ⟨by repeat (first | (with_reducible first | exact HB.out | apply below_alloc | apply pw_below_drewN | apply below_drew1) | exact HB.out)⟩⟩
          · rw [if_neg c17] at H
            have c17b0 : (t301 != t299) = false := by simpa using c17
            (try (have c17b1 : decide (t301 = t299) = true := by simpa using c17))
            (try (have c17b2 : (t301 == t299) = true := by simpa using c17))
            clear c17
            (first | rw [c17b0] | (simp only [i64_w, i32_w]; rw [c17b0]) | skip)
            replace H := Option.bind_eq_some_iff.mp H
            obtain ⟨t302, A190, H⟩ := H
            replace H : (if (t302 != t299) = true then (zoneinfolaw17_LeapsValidity.j1 kj2 l0 a1 t300 true) else (if t299 = true then (if t300 = true then ((leaps_NeedsV4.f l0).bind fun t303 => (zoneinfolaw17_LeapsValidity.j1 kj2 l0 a1 t300 (t303 != (!t299)))) else (zoneinfolaw17_LeapsValidity.j1 kj2 l0 a1 t300 true)) else ((leaps_NeedsV4.f l0).bind fun t304 => (if t300 = true then (zoneinfolaw17_LeapsValidity.j1 kj2 l0 a1 t300 (t304 != (!t299))) else (zoneinfolaw17_LeapsValidity.j1 kj2 l0 a1 t300 (t304 != false)))))) = some r := H
            have A19 := Aside0.mk A190
            clear A190
            by_cases c20 : (t302 != t299) = true
            · rw [if_pos c20] at H
              have c20b0 : (t302 != t299) = true := c20
              (try (have c20b1 : decide (t302 = t299) = false := by simpa using c20))
              (try (have c20b2 : (t302 == t299) = false := by simpa using c20))
              (try (have c20b3 : ¬ (t302 = t299) := by simpa using c20))
              clear c20
              have H' := Aside0.mk H
              clear H
              go_wp2_with (first | (go_at_call 15; (with_reducible refine (leaps_Valid.calls _ _ l0 1 t301 _ ?side1 ?side2 ?side3 A16.out).mono ?_); (case side1 => repeat (first | exact (Kd.C_below HR0.out HB.out) | (with_reducible refine Kd.C_alloc ?_ _) | (with_reducible refine Kd.C_drewN ?_ _) | (with_reducible refine Kd.C_drew ?_))); (case side2 => exact HC0.out); (case side3 => repeat (first | exact (Kd.C_below HRg.out HB.out) | (with_reducible refine Kd.C_alloc ?_ _) | (with_reducible refine Kd.C_drewN ?_ _) | (with_reducible refine Kd.C_drew ?_))); rintro e w21 ⟨rfl, hb⟩; have n0_ := Aside0.mk (below_step (by repeat (first | (with_reducible first | exact HB.out | apply below_alloc | apply pw_below_drewN | apply below_drew1) | exact HB.out)) hb); clear HB; have HB := n0_; clear n0_; (try clear hb); (try clear hb2); (try clear hk); (try clear hi)) | (go_at_call 15; (with_reducible refine (leaps_Valid.calls _ _ l0 2 t302 _ ?side1 ?side2 ?side3 A19.out).mono ?_); (case side1 => repeat (first | exact (Kd.C_below HR0.out HB.out) | (with_reducible refine Kd.C_alloc ?_ _) | (with_reducible refine Kd.C_drewN ?_ _) | (with_reducible refine Kd.C_drew ?_))); (case side2 => exact HC0.out); (case side3 => repeat (first | exact (Kd.C_below HRg.out HB.out) | (with_reducible refine Kd.C_alloc ?_ _) | (with_reducible refine Kd.C_drewN ?_ _) | (with_reducible refine Kd.C_drew ?_))); rintro e w22 ⟨rfl, hb⟩; have n0_ := Aside0.mk (below_step (by repeat (first | (with_reducible first | exact HB.out | apply below_alloc | apply pw_below_drewN | apply below_drew1) | exact HB.out)) hb); clear HB; have HB := n0_; clear n0_; (try clear hb); (try clear hb2); (try clear hk); (try clear hi)))
              go_meet
              case rel => exact ⟨_, (true), (by first | rfl | (simp; done) | (simp [*]; done)), H', ⟨by have := HJ2.out; first | omega | exact Nat.le_refl _⟩, ⟨by repeat (first | (with_reducible first | exact HB.out | apply below_alloc | apply pw_below_drewN | apply below_drew1) | exact HB.out)⟩⟩
            · rw [if_neg c20] at H
              have c20b0 : (t302 != t299) = false := by simpa using c20
              (try (have c20b1 : decide (t302 = t299) = true := by simpa using c20))
              (try (have c20b2 : (t302 == t299) = true := by simpa using c20))
              clear c20
              by_cases c23 : t299 = true
              · subst c23
                have H1 : (if t300 = true then ((leaps_NeedsV4.f l0).bind fun t303 => (zoneinfolaw17_LeapsValidity.j1 kj2 l0 a1 t300 (t303 != (!true)))) else (zoneinfolaw17_LeapsValidity.j1 kj2 l0 a1 t300 true)) = some r := by rw [if_pos rfl] at H; exact H
                clear H
                have H := H1
                clear H1
                by_cases c24 : t300 = true
                · subst c24
                  have H1 : ((leaps_NeedsV4.f l0).bind fun t303 => (zoneinfolaw17_LeapsValidity.j1 kj2 l0 a1 true (t303 != (!true)))) = some r := by rw [if_pos rfl] at H; exact H
                  clear H
                  have H := H1
                  clear H1
                  replace H := Option.bind_eq_some_iff.mp H
                  obtain ⟨t303, A250, H⟩ := H
                  replace H : (zoneinfolaw17_LeapsValidity.j1 kj2 l0 a1 true (t303 != (!true))) = some r := H
                  have A25 := Aside0.mk A250
                  clear A250
                  have H' := Aside0.mk H
                  clear H
                  go_wp2_with (first | (go_at_call 15; (with_reducible refine (leaps_Valid.calls _ _ l0 1 t301 _ ?side1 ?side2 ?side3 A16.out).mono ?_); (case side1 => repeat (first | exact (Kd.C_below HR0.out HB.out) | (with_reducible refine Kd.C_alloc ?_ _) | (with_reducible refine Kd.C_drewN ?_ _) | (with_reducible refine Kd.C_drew ?_))); (case side2 => exact HC0.out); (case side3 => repeat (first | exact (Kd.C_below HRg.out HB.out) | (with_reducible refine Kd.C_alloc ?_ _) | (with_reducible refine Kd.C_drewN ?_ _) | (with_reducible refine Kd.C_drew ?_))); rintro e w26 ⟨rfl, hb⟩; have n0_ := Aside0.mk (below_step (by repeat (first | (with_reducible first | exact HB.out | apply below_alloc | apply pw_below_drewN | apply below_drew1) | exact HB.out)) hb); clear HB; have HB := n0_; clear n0_; (try clear hb); (try clear hb2); (try clear hk); (try clear hi)) | (go_at_call 15; (with_reducible refine (leaps_Valid.calls _ _ l0 2 t302 _ ?side1 ?side2 ?side3 A19.out).mono ?_); (case side1 => repeat (first | exact (Kd.C_below HR0.out HB.out) | (with_reducible refine Kd.C_alloc ?_ _) | (with_reducible refine Kd.C_drewN ?_ _) | (with_reducible refine Kd.C_drew ?_))); (case side2 => exact HC0.out); (case side3 => repeat (first | exact (Kd.C_below HRg.out HB.out) | (with_reducible refine Kd.C_alloc ?_ _) | (with_reducible refine Kd.C_drewN ?_ _) | (with_reducible refine Kd.C_drew ?_))); rintro e w27 ⟨rfl, hb⟩; have n0_ := Aside0.mk (below_step (by repeat (first | (with_reducible first | exact HB.out | apply below_alloc | apply pw_below_drewN | apply below_drew1) | exact HB.out)) hb); clear HB; have HB := n0_; clear n0_; (try clear hb); (try clear hb2); (try clear hk); (try clear hi)) | (go_at_call 17; (with_reducible refine (leaps_NeedsV4.calls _ _ l0 t303 _ ?side1 ?side2 ?side3 A25.out).mono ?_); (case side1 => repeat (first | exact (Kd.C_below HR0.out HB.out) | (with_reducible refine Kd.C_alloc ?_ _) | (with_reducible refine Kd.C_drewN ?_ _) | (with_reducible refine Kd.C_drew ?_))); (case side2 => exact HC0.out); (case side3 => repeat (first | exact (Kd.C_below HRg.out HB.out) | (with_reducible refine Kd.C_alloc ?_ _) | (with_reducible refine Kd.C_drewN ?_ _) | (with_reducible refine Kd.C_drew ?_))); rintro e w28 ⟨rfl, hb⟩; have n0_ := Aside0.mk (below_step (by repeat (first | (with_reducible first | exact HB.out | apply below_alloc | apply pw_below_drewN | apply below_drew1) | exact HB.out)) hb); clear HB; have HB := n0_; clear n0_; (try clear hb); (try clear hb2); (try clear hk); (try clear hi)))
                  go_meet
                  case rel => exact ⟨_, ((t303 != (!true))), (by first | rfl | (simp; done) | (simp [*]; done)), H', ⟨by have := HJ2.out; first | omega | exact Nat.le_refl _⟩, ⟨by repeat (first | (with_reducible first | exact HB.out | apply below_alloc | apply pw_below_drewN | apply below_drew1) | exact HB.out)⟩⟩
                · replace c24 := Bool.eq_false_iff.mpr c24
                  subst c24
                  have H1 : (zoneinfolaw17_LeapsValidity.j1 kj2 l0 a1 false true) = some r := by rw [if_neg (show ¬ (false = true) by decide)] at H; exact H
                  clear H
                  have H := H1
                  clear H1
                  have H' := Aside0.mk H
                  clear H
                  go_wp2_with (first | (go_at_call 15; (with_reducible refine (leaps_Valid.calls _ _ l0 1 t301 _ ?side1 ?side2 ?side3 A16.out).mono ?_); (case side1 => repeat (first | exact (Kd.C_below HR0.out HB.out) | (with_reducible refine Kd.C_alloc ?_ _) | (with_reducible refine Kd.C_drewN ?_ _) | (with_reducible refine Kd.C_drew ?_))); (case side2 => exact HC0.out); (case side3 => repeat (first | exact (Kd.C_below HRg.out HB.out) | (with_reducible refine Kd.C_alloc ?_ _) | (with_reducible refine Kd.C_drewN ?_ _) | (with_reducible refine Kd.C_drew ?_))); rintro e w29 ⟨rfl, hb⟩; have n0_ := Aside0.mk (below_step (by repeat (first | (with_reducible first | exact HB.out | apply below_alloc | apply pw_below_drewN | apply below_drew1) | exact HB.out)) hb); clear HB; have HB := n0_; clear n0_; (try clear hb); (try clear hb2); (try clear hk); (try clear hi)) | (go_at_call 15; (with_reducible refine (leaps_Valid.calls _ _ l0 2 t302 _ ?side1 ?side2 ?side3 A19.out).mono ?_); (case side1 => repeat (first | exact (Kd.C_below HR0.out HB.out) | (with_reducible refine Kd.C_alloc ?_ _) | (with_reducible refine Kd.C_drewN ?_ _) | (with_reducible refine Kd.C_drew ?_))); (case side2 => exact HC0.out); (case side3 => repeat (first | exact (Kd.C_below HRg.out HB.out) | (with_reducible refine Kd.C_alloc ?_ _) | (with_reducible refine Kd.C_drewN ?_ _) | (with_reducible refine Kd.C_drew ?_))); rintro e w30 ⟨rfl, hb⟩; have n0_ := Aside0.mk (below_step (by repeat (first | (with_reducible first | exact HB.out | apply below_alloc | apply pw_below_drewN | apply below_drew1) | exact HB.out)) hb); clear HB; have HB := n0_; clear n0_; (try clear hb); (try clear hb2); (try clear hk); (try clear hi)))
                  go_meet
                  case rel => exact ⟨_, (true), (by first | rfl | (simp; done) | (simp [*]; done)), H', ⟨by have := HJ2.out; first | omega | exact Nat.le_refl _⟩, ⟨by repeat (first | (with_reducible first | exact HB.out | apply below_alloc | apply pw_below_drewN | apply below_drew1) | exact HB.out)⟩⟩
              · replace c23 := Bool.eq_false_iff.mpr c23
                subst c23
                have H1 : ((leaps_NeedsV4.f l0).bind fun t304 => (if t300 = true then (zoneinfolaw17_LeapsValidity.j1 kj2 l0 a1 t300 (t304 != (!false))) else (zoneinfolaw17_LeapsValidity.j1 kj2 l0 a1 t300 (t304 != false)))) = some r := by rw [if_neg (show ¬ (false = true) by decide)] at H; exact H
                clear H
                have H := H1
                clear H1
                replace H := Option.bind_eq_some_iff.mp H
                obtain ⟨t304, A310, H⟩ := H
                replace H : (if t300 = true then (zoneinfolaw17_LeapsValidity.j1 kj2 l0 a1 t300 (t304 != (!false))) else (zoneinfolaw17_LeapsValidity.j1 kj2 l0 a1 t300 (t304 != false))) = some r := H
                have A31 := Aside0.mk A310
                clear A310
                by_cases c32 : t300 = true
                · subst c32
                  have H1 : (zoneinfolaw17_LeapsValidity.j1 kj2 l0 a1 true (t304 != (!false))) = some r := by rw [if_pos rfl] at H; exact H
                  clear H
                  have H := H1
                  clear H1
                  have H' := Aside0.mk H
                  clear H
                  go_wp2_with (first | (go_at_call 15; (with_reducible refine (leaps_Valid.calls _ _ l0 1 t301 _ ?side1 ?side2 ?side3 A16.out).mono ?_); (case side1 => repeat (first | exact (Kd.C_below HR0.out HB.out) | (with_reducible refine Kd.C_alloc ?_ _) | (with_reducible refine Kd.C_drewN ?_ _) | (with_reducible refine Kd.C_drew ?_))); (case side2 => exact HC0.out); (case side3 => repeat (first | exact (Kd.C_below HRg.out HB.out) | (with_reducible refine Kd.C_alloc ?_ _) | (with_reducible refine Kd.C_drewN ?_ _) | (with_reducible refine Kd.C_drew ?_))); rintro e w33 ⟨rfl, hb⟩; have n0_ := Aside0.mk (below_step (by repeat (first | (with_reducible first | exact HB.out | apply below_alloc | apply pw_below_drewN | apply below_drew1) | exact HB.out)) hb); clear HB; have HB := n0_; clear n0_; (try clear hb); (try clear hb2); (try clear hk); (try clear hi)) | (go_at_call 15; (with_reducible refine (leaps_Valid.calls _ _ l0 2 t302 _ ?side1 ?side2 ?side3 A19.out).mono ?_); (case side1 => repeat (first | exact (Kd.C_below HR0.out HB.out) | (with_reducible refine Kd.C_alloc ?_ _) | (with_reducible refine Kd.C_drewN ?_ _) | (with_reducible refine Kd.C_drew ?_))); (case side2 => exact HC0.out); (case side3 => repeat (first | exact (Kd.C_below HRg.out HB.out) | (with_reducible refine Kd.C_alloc ?_ _) | (with_reducible refine Kd.C_drewN ?_ _) | (with_reducible refine Kd.C_drew ?_))); rintro e w34 ⟨rfl, hb⟩; have n0_ := Aside0.mk (below_step (by repeat (first | (with_reducible first | exact HB.out | apply below_alloc | apply pw_below_drewN | apply below_drew1) | exact HB.out)) hb); clear HB; have HB := n0_; clear n0_; (try clear hb); (try clear hb2); (try clear hk); (try clear hi)) | (go_at_call 17; (with_reducible refine (leaps_NeedsV4.calls _ _ l0 t304 _ ?side1 ?side2 ?side3 A31.out).mono ?_); (case side1 => repeat (first | exact (Kd.C_below HR0.out HB.out) | (with_reducible refine Kd.C_alloc ?_ _) | (with_reducible refine Kd.C_drewN ?_ _) | (with_reducible refine Kd.C_drew ?_))); (case side2 => exact HC0.out); (case side3 => repeat (first | exact (Kd.C_below HRg.out HB.out) | (with_reducible refine Kd.C_alloc ?_ _) | (with_reducible refine Kd.C_drewN ?_ _) | (with_reducible refine Kd.C_drew ?_))); rintro e w35 ⟨rfl, hb⟩; have n0_ := Aside0.mk (below_step (by repeat (first | (with_reducible first | exact HB.out | apply below_alloc | apply pw_below_drewN | apply below_drew1) | exact HB.out)) hb); clear HB; have HB := n0_; clear n0_; (try clear hb); (try clear hb2); (try clear hk); (try clear hi)))
                  go_meet
                  case rel => exact ⟨_, ((t304 != (!false))), (by first | rfl | (simp; done) | (simp [*]; done)), H', ⟨by have := HJ2.out; first | omega | exact Nat.le_refl _⟩, ⟨by repeat (first | (with_reducible first | exact HB.out | apply below_alloc | apply pw_below_drewN | apply below_drew1) | exact HB.out)⟩⟩
                · replace c32 := Bool.eq_false_iff.mpr c32
                  subst c32
                  have H1 : (zoneinfolaw17_LeapsValidity.j1 kj2 l0 a1 false (t304 != false)) = some r := by rw [if_neg (show ¬ (false = true) by decide)] at H; exact H
                  clear H
                  have H := H1
                  clear H1
                  have H' := Aside0.mk H
                  clear H
                  go_wp2_with (first | (go_at_call 15; (with_reducible refine (leaps_Valid.calls _ _ l0 1 t301 _ ?side1 ?side2 ?side3 A16.out).mono ?_); (case side1 => repeat (first | exact (Kd.C_below HR0.out HB.out) | (with_reducible refine Kd.C_alloc ?_ _) | (with_reducible refine Kd.C_drewN ?_ _) | (with_reducible refine Kd.C_drew ?_))); (case side2 => exact HC0.out); (case side3 => repeat (first | exact (Kd.C_below HRg.out HB.out) | (with_reducible refine Kd.C_alloc ?_ _) | (with_reducible refine Kd.C_drewN ?_ _) | (with_reducible refine Kd.C_drew ?_))); rintro e w36 ⟨rfl, hb⟩; have n0_ := Aside0.mk (below_step (by repeat (first | (with_reducible first | exact HB.out | apply below_alloc | apply pw_below_drewN | apply below_drew1) | exact HB.out)) hb); clear HB; have HB := n0_; clear n0_; (try clear hb); (try clear hb2); (try clear hk); (try clear hi)) | (go_at_call 15; (with_reducible refine (leaps_Valid.calls _ _ l0 2 t302 _ ?side1 ?side2 ?side3 A19.out).mono ?_); (case side1 => repeat (first | exact (Kd.C_below HR0.out HB.out) | (with_reducible refine Kd.C_alloc ?_ _) | (with_reducible refine Kd.C_drewN ?_ _) | (with_reducible refine Kd.C_drew ?_))); (case side2 => exact HC0.out); (case side3 => repeat (first | exact (Kd.C_below HRg.out HB.out) | (with_reducible refine Kd.C_alloc ?_ _) | (with_reducible refine Kd.C_drewN ?_ _) | (with_reducible refine Kd.C_drew ?_))); rintro e w37 ⟨rfl, hb⟩; have n0_ := Aside0.mk (below_step (by repeat (first | (with_reducible first | exact HB.out | apply below_alloc | apply pw_below_drewN | apply below_drew1) | exact HB.out)) hb); clear HB; have HB := n0_; clear n0_; (try clear hb); (try clear hb2); (try clear hk); (try clear hi)) | (go_at_call 17; (with_reducible refine (leaps_NeedsV4.calls _ _ l0 t304 _ ?side1 ?side2 ?side3 A31.out).mono ?_); (case side1 => repeat (first | exact (Kd.C_below HR0.out HB.out) | (with_reducible refine Kd.C_alloc ?_ _) | (with_reducible refine Kd.C_drewN ?_ _) | (with_reducible refine Kd.C_drew ?_))); (case side2 => exact HC0.out); (case side3 => repeat (first | exact (Kd.C_below HRg.out HB.out) | (with_reducible refine Kd.C_alloc ?_ _) | (with_reducible refine Kd.C_drewN ?_ _) | (with_reducible refine Kd.C_drew ?_))); rintro e w38 ⟨rfl, hb⟩; have n0_ := Aside0.mk (below_step (by repeat (first | (with_reducible first | exact HB.out | apply below_alloc | apply pw_below_drewN | apply below_drew1) | exact HB.out)) hb); clear HB; have HB := n0_; clear n0_; (try clear hb); (try clear hb2); (try clear hk); (try clear hi)))
                  go_meet
                  case rel => exact ⟨_, ((t304 != false)), (by first | rfl | (simp; done) | (simp [*]; done)), H', ⟨by have := HJ2.out; first | omega | exact Nat.le_refl _⟩, ⟨by repeat (first | (with_reducible first | exact HB.out | apply below_alloc | apply pw_below_drewN | apply below_drew1) | exact HB.out)⟩⟩
        case rest =>
          clear HC13
          try clear c1
          try clear c2
          try clear p2
          try clear c3
          try clear c5
          try clear c7
          try clear c8
          try clear c15
          try clear c17
          try clear c17b0
          try clear c17b1
          try clear c17b2
          try clear c20
          try clear c20b0
          try clear c20b1
          try clear c20b2
          try clear c23
          try clear c24
          try clear c32
          try clear p2
          obtain ⟨kq, x48_12, rfl, HA, HJ12, HB⟩ := hcut
          cases kq with
          | zero => exact absurd HA.out (by simp [zoneinfolaw17_LeapsValidity.j1])
          | succ kj12 =>
            have H := HA.out
            clear HA
            simp only [zoneinfolaw17_LeapsValidity.j1] at H
            by_cases c39 : x48_12 = true
            · subst c39
              have H1 : (none) = some r := by rw [if_pos rfl] at H; exact H
              clear H
              have H := H1
              clear H1
              exact absurd H (by simp)
            · replace c39 := Bool.eq_false_iff.mpr c39
              subst c39
              have H1 : (if t300 = true then (zoneinfolaw17_LeapsValidity.j2 kj12 l0 a1 (decide ((l0.length : Int) < 2))) else (zoneinfolaw17_LeapsValidity.j2 kj12 l0 a1 true)) = some r := by rw [if_neg (show ¬ (false = true) by decide)] at H; exact H
              clear H
              have H := H1
              clear H1
              have HC40 := Aside0.mk H
              clear H
              go_upto_region 7 with (fail)
              go_cut [55] (fun v55 wc => ∃ (kq : Nat) (x55_39 : Bool), v55 = .bool x55_39 ∧ Aside0 (zoneinfolaw17_LeapsValidity.j2 kq l0 a1 x55_39 = some r) ∧ Aside0 (kq ≤ kj12) ∧ Aside0 (Below w.heap.size w wc))
              case first =>
                have H := HC40.out
                clear HC40
                by_cases c41 : t300 = true
                · subst c41
                  have H1 : (zoneinfolaw17_LeapsValidity.j2 kj12 l0 a1 (decide ((l0.length : Int) < 2))) = some r := by rw [if_pos rfl] at H; exact H
                  clear H
                  have H := H1
                  clear H1
                  have H' := Aside0.mk H
                  clear H
                  go_wp2
                  go_meet
                  case rel => exact ⟨_, (decide ((l0.length : Int) < 2)), (by first | rfl | (simp; done) | (simp [*]; done)), H', ⟨by have := HJ2.out; have := HJ12.out; first | omega | exact Nat.le_refl _⟩, ⟨by repeat (first | (with_reducible first | exact HB.out | apply below_alloc | apply pw_below_drewN | apply below_drew1) | exact HB.out)⟩⟩
                · replace c41 := Bool.eq_false_iff.mpr c41
                  subst c41
                  have H1 : (zoneinfolaw17_LeapsValidity.j2 kj12 l0 a1 true) = some r := by rw [if_neg (show ¬ (false = true) by decide)] at H; exact H
                  clear H
                  have H := H1
                  clear H1
                  have H' := Aside0.mk H
                  clear H
                  go_wp2
                  go_meet
                  case rel => exact ⟨_, (true), (by first | rfl | (simp; done) | (simp [*]; done)), H', ⟨by have := HJ2.out; have := HJ12.out; first | omega | exact Nat.le_refl _⟩, ⟨by repeat (first | (with_reducible first | exact HB.out | apply below_alloc | apply pw_below_drewN | apply below_drew1) | exact HB.out)⟩⟩
              case rest =>
                clear HC40
                try clear c1
                try clear c2
                try clear p2
                try clear c3
                try clear c4
                try clear c5
                try clear c7
                try clear c8
                try clear c15
                try clear c17
                try clear c17b0
                try clear c17b1
                try clear c17b2
                try clear c20
                try clear c20b0
                try clear c20b1
                try clear c20b2
                try clear c23
                try clear c24
                try clear c32
                try clear c39
                try clear c41
                try clear p2
                obtain ⟨kq, x55_39, rfl, HA, HJ39, HB⟩ := hcut
                cases kq with
                | zero => exact absurd HA.out (by simp [zoneinfolaw17_LeapsValidity.j2])
                | succ kj39 =>
                  have H := HA.out
                  clear HA
                  simp only [zoneinfolaw17_LeapsValidity.j2] at H
                  by_cases c42 : x55_39 = true
                  · subst c42
                    have H1 : (some true) = some r := by rw [if_pos rfl] at H; exact H
                    clear H
                    have H := H1
                    clear H1
                    obtain rfl := Option.some.inj H
                    go_wp2
                    go_ret
                    exact ⟨by first | rfl | (simp [errW_none, errW_some] <;> rfl) | (simp [*, errW_none, errW_some] <;> rfl), by repeat (first | (with_reducible first | exact HB.out | apply below_alloc | apply pw_below_drewN | apply below_drew1) | exact HB.out)⟩
                  · replace c42 := Bool.eq_false_iff.mpr c42
                    subst c42
                    have H1 : (if (l0.length : Int) = 0 then (none) else (if 0 ≤ (Int.tmod (wrap64 (a1)) (l0.length : Int)) then (if (Int.tmod (wrap64 (a1)) (l0.length : Int)) ≤ (l0.length : Int) then ((leaps_Valid.f (l0.take ((Int.tmod (wrap64 (a1)) (l0.length : Int)) : Int).toNat) 4).bind fun t309 => (if t309 = true then ((some (([] : List (S38)) : List (S38))).bind fun y310 => (if y310.length + l0.length < 8796093022208 then ((some (y310 ++ l0 : List (S38))).bind fun y313 => (if (wrap64 ((l0.length : Int) - 1)) = 0 then (none) else (if 0 ≤ (wrap64 ((Int.tmod (Int.tmod (wrap64 (a1)) (l0.length : Int)) (wrap64 ((l0.length : Int) - 1))) + 1)) then (if (wrap64 ((Int.tmod (Int.tmod (wrap64 (a1)) (l0.length : Int)) (wrap64 ((l0.length : Int) - 1))) + 1)) < (l0.length : Int) then (if 0 ≤ (Int.tmod (Int.tmod (wrap64 (a1)) (l0.length : Int)) (wrap64 ((l0.length : Int) - 1))) then (if (Int.tmod (Int.tmod (wrap64 (a1)) (l0.length : Int)) (wrap64 ((l0.length : Int) - 1))) < (y313.length : Int) then (if (Int.tmod (Int.tmod (wrap64 (a1)) (l0.length : Int)) (wrap64 ((l0.length : Int) - 1))) < (l0.length : Int) then (if (wrap64 ((Int.tmod (Int.tmod (wrap64 (a1)) (l0.length : Int)) (wrap64 ((l0.length : Int) - 1))) + 1)) < (y313.length : Int) then ((leaps_Valid.f ((y313.set ((Int.tmod (Int.tmod (wrap64 (a1)) (l0.length : Int)) (wrap64 ((l0.length : Int) - 1))) : Int).toNat (⟨(rd_T38 l0 (wrap64 ((Int.tmod (Int.tmod (wrap64 (a1)) (l0.length : Int)) (wrap64 ((l0.length : Int) - 1))) + 1))).f0, (rd_T38 l0 (wrap64 ((Int.tmod (Int.tmod (wrap64 (a1)) (l0.length : Int)) (wrap64 ((l0.length : Int) - 1))) + 1))).f1⟩ : S38)).set ((wrap64 ((Int.tmod (Int.tmod (wrap64 (a1)) (l0.length : Int)) (wrap64 ((l0.length : Int) - 1))) + 1)) : Int).toNat (⟨(rd_T38 l0 (Int.tmod (Int.tmod (wrap64 (a1)) (l0.length : Int)) (wrap64 ((l0.length : Int) - 1)))).f0, (rd_T38 l0 (Int.tmod (Int.tmod (wrap64 (a1)) (l0.length : Int)) (wrap64 ((l0.length : Int) - 1)))).f1⟩ : S38)) 4).bind fun t320 => (some (!t320))) else (none)) else (none)) else (none)) else (none)) else (none)) else (none)))) else (none))) else (none))) else (none)) else (none))) = some r := by rw [if_neg (show ¬ (false = true) by decide)] at H; exact H
                    clear H
                    have H := H1
                    clear H1
                    by_cases c43 : (l0.length : Int) = 0
                    · rw [if_pos c43] at H
                      exact absurd H (by simp)
                    · rw [if_neg c43] at H
                      have c43b0 : ((l0.length : Int) == 0) = false := beq_eq_false_iff_ne.mpr c43
                      have c43b1 : ((l0.length : Int) != 0) = true := bne_iff_ne.mpr c43
                      have c43b2 : ¬ (l0 = []) := fun h_ => c43 (by rw [h_]; rfl)
                      obtain ⟨ji44, hji44⟩ : ∃ j_ : Int, (Int.tmod (wrap64 (a1)) (l0.length : Int)) = j_ := ⟨_, rfl⟩
                      replace H : (if 0 ≤ (ji44) then (if (ji44) ≤ (l0.length : Int) then ((leaps_Valid.f (l0.take ((ji44) : Int).toNat) 4).bind fun t309 => (if t309 = true then ((some (([] : List (S38)) : List (S38))).bind fun y310 => (if y310.length + l0.length < 8796093022208 then ((some (y310 ++ l0 : List (S38))).bind fun y313 => (if (wrap64 ((l0.length : Int) - 1)) = 0 then (none) else (if 0 ≤ (wrap64 ((Int.tmod (ji44) (wrap64 ((l0.length : Int) - 1))) + 1)) then (if (wrap64 ((Int.tmod (ji44) (wrap64 ((l0.length : Int) - 1))) + 1)) < (l0.length : Int) then (if 0 ≤ (Int.tmod (ji44) (wrap64 ((l0.length : Int) - 1))) then (if (Int.tmod (ji44) (wrap64 ((l0.length : Int) - 1))) < (y313.length : Int) then (if (Int.tmod (ji44) (wrap64 ((l0.length : Int) - 1))) < (l0.length : Int) then (if (wrap64 ((Int.tmod (ji44) (wrap64 ((l0.length : Int) - 1))) + 1)) < (y313.length : Int) then ((leaps_Valid.f ((y313.set ((Int.tmod (ji44) (wrap64 ((l0.length : Int) - 1))) : Int).toNat (⟨(rd_T38 l0 (wrap64 ((Int.tmod (ji44) (wrap64 ((l0.length : Int) - 1))) + 1))).f0, (rd_T38 l0 (wrap64 ((Int.tmod (ji44) (wrap64 ((l0.length : Int) - 1))) + 1))).f1⟩ : S38)).set ((wrap64 ((Int.tmod (ji44) (wrap64 ((l0.length : Int) - 1))) + 1)) : Int).toNat (⟨(rd_T38 l0 (Int.tmod (ji44) (wrap64 ((l0.length : Int) - 1)))).f0, (rd_T38 l0 (Int.tmod (ji44) (wrap64 ((l0.length : Int) - 1)))).f1⟩ : S38)) 4).bind fun t320 => (some (!t320))) else (none)) else (none)) else (none)) else (none)) else (none)) else (none)))) else (none))) else (none))) else (none)) else (none)) = some r := by first | (rw [hji44] at H; exact H) | (simp only [hji44] at H ⊢; exact H)
                      by_cases c45 : 0 ≤ (ji44)
                      · rw [if_pos c45] at H
                        have c45b0 := eq_true c45
                        have c45b1 : decide (0 ≤ (ji44)) = true := decide_eq_true c45
                        clear c45
                        by_cases c46 : (ji44) ≤ (l0.length : Int)
                        · rw [if_pos c46] at H
                          have c46b0 := eq_true c46
                          have c46b1 : decide ((ji44) ≤ (l0.length : Int)) = true := decide_eq_true c46
                          clear c46
                          obtain ⟨y305, hy305⟩ : ∃ y_ : List (S38), y_ = (l0.take ((ji44) : Int).toNat) := ⟨_, rfl⟩
                          replace H : ((leaps_Valid.f y305 4).bind fun t309 => (if t309 = true then ((some (([] : List (S38)) : List (S38))).bind fun y310 => (if y310.length + l0.length < 8796093022208 then ((some (y310 ++ l0 : List (S38))).bind fun y313 => (if (wrap64 ((l0.length : Int) - 1)) = 0 then (none) else (if 0 ≤ (wrap64 ((Int.tmod (ji44) (wrap64 ((l0.length : Int) - 1))) + 1)) then (if (wrap64 ((Int.tmod (ji44) (wrap64 ((l0.length : Int) - 1))) + 1)) < (l0.length : Int) then (if 0 ≤ (Int.tmod (ji44) (wrap64 ((l0.length : Int) - 1))) then (if (Int.tmod (ji44) (wrap64 ((l0.length : Int) - 1))) < (y313.length : Int) then (if (Int.tmod (ji44) (wrap64 ((l0.length : Int) - 1))) < (l0.length : Int) then (if (wrap64 ((Int.tmod (ji44) (wrap64 ((l0.length : Int) - 1))) + 1)) < (y313.length : Int) then ((leaps_Valid.f ((y313.set ((Int.tmod (ji44) (wrap64 ((l0.length : Int) - 1))) : Int).toNat (⟨(rd_T38 l0 (wrap64 ((Int.tmod (ji44) (wrap64 ((l0.length : Int) - 1))) + 1))).f0, (rd_T38 l0 (wrap64 ((Int.tmod (ji44) (wrap64 ((l0.length : Int) - 1))) + 1))).f1⟩ : S38)).set ((wrap64 ((Int.tmod (ji44) (wrap64 ((l0.length : Int) - 1))) + 1)) : Int).toNat (⟨(rd_T38 l0 (Int.tmod (ji44) (wrap64 ((l0.length : Int) - 1)))).f0, (rd_T38 l0 (Int.tmod (ji44) (wrap64 ((l0.length : Int) - 1)))).f1⟩ : S38)) 4).bind fun t320 => (some (!t320))) else (none)) else (none)) else (none)) else (none)) else (none)) else (none)))) else (none))) else (none))) = some r := by first | (rw [hy305]; with_reducible exact H) | (have H2_ := (Option.bind_some _ _).symm.trans H; rw [hy305]; with_reducible exact H2_) | (have H2_ := (Option.bind_some _ _).symm.trans H; with_reducible exact H2_) | with_reducible exact H | (rw [hy305]; exact H) | exact H
                          have Ny305 := Aside0.mk hy305
                          clear hy305
                          replace H := Option.bind_eq_some_iff.mp H
                          obtain ⟨t309, A470, H⟩ := H
                          replace H : (if t309 = true then ((some (([] : List (S38)) : List (S38))).bind fun y310 => (if y310.length + l0.length < 8796093022208 then ((some (y310 ++ l0 : List (S38))).bind fun y313 => (if (wrap64 ((l0.length : Int) - 1)) = 0 then (none) else (if 0 ≤ (wrap64 ((Int.tmod (ji44) (wrap64 ((l0.length : Int) - 1))) + 1)) then (if (wrap64 ((Int.tmod (ji44) (wrap64 ((l0.length : Int) - 1))) + 1)) < (l0.length : Int) then (if 0 ≤ (Int.tmod (ji44) (wrap64 ((l0.length : Int) - 1))) then (if (Int.tmod (ji44) (wrap64 ((l0.length : Int) - 1))) < (y313.length : Int) then (if (Int.tmod (ji44) (wrap64 ((l0.length : Int) - 1))) < (l0.length : Int) then (if (wrap64 ((Int.tmod (ji44) (wrap64 ((l0.length : Int) - 1))) + 1)) < (y313.length : Int) then ((leaps_Valid.f ((y313.set ((Int.tmod (ji44) (wrap64 ((l0.length : Int) - 1))) : Int).toNat (⟨(rd_T38 l0 (wrap64 ((Int.tmod (ji44) (wrap64 ((l0.length : Int) - 1))) + 1))).f0, (rd_T38 l0 (wrap64 ((Int.tmod (ji44) (wrap64 ((l0.length : Int) - 1))) + 1))).f1⟩ : S38)).set ((wrap64 ((Int.tmod (ji44) (wrap64 ((l0.length : Int) - 1))) + 1)) : Int).toNat (⟨(rd_T38 l0 (Int.tmod (ji44) (wrap64 ((l0.length : Int) - 1)))).f0, (rd_T38 l0 (Int.tmod (ji44) (wrap64 ((l0.length : Int) - 1)))).f1⟩ : S38)) 4).bind fun t320 => (some (!t320))) else (none)) else (none)) else (none)) else (none)) else (none)) else (none)))) else (none))) else (none)) = some r := H
                          have A47 := Aside0.mk A470
                          clear A470
                          by_cases c48 : t309 = true
                          · subst c48
                            have H1 : ((some (([] : List (S38)) : List (S38))).bind fun y310 => (if y310.length + l0.length < 8796093022208 then ((some (y310 ++ l0 : List (S38))).bind fun y313 => (if (wrap64 ((l0.length : Int) - 1)) = 0 then (none) else (if 0 ≤ (wrap64 ((Int.tmod (ji44) (wrap64 ((l0.length : Int) - 1))) + 1)) then (if (wrap64 ((Int.tmod (ji44) (wrap64 ((l0.length : Int) - 1))) + 1)) < (l0.length : Int) then (if 0 ≤ (Int.tmod (ji44) (wrap64 ((l0.length : Int) - 1))) then (if (Int.tmod (ji44) (wrap64 ((l0.length : Int) - 1))) < (y313.length : Int) then (if (Int.tmod (ji44) (wrap64 ((l0.length : Int) - 1))) < (l0.length : Int) then (if (wrap64 ((Int.tmod (ji44) (wrap64 ((l0.length : Int) - 1))) + 1)) < (y313.length : Int) then ((leaps_Valid.f ((y313.set ((Int.tmod (ji44) (wrap64 ((l0.length : Int) - 1))) : Int).toNat (⟨(rd_T38 l0 (wrap64 ((Int.tmod (ji44) (wrap64 ((l0.length : Int) - 1))) + 1))).f0, (rd_T38 l0 (wrap64 ((Int.tmod (ji44) (wrap64 ((l0.length : Int) - 1))) + 1))).f1⟩ : S38)).set ((wrap64 ((Int.tmod (ji44) (wrap64 ((l0.length : Int) - 1))) + 1)) : Int).toNat (⟨(rd_T38 l0 (Int.tmod (ji44) (wrap64 ((l0.length : Int) - 1)))).f0, (rd_T38 l0 (Int.tmod (ji44) (wrap64 ((l0.length : Int) - 1)))).f1⟩ : S38)) 4).bind fun t320 => (some (!t320))) else (none)) else (none)) else (none)) else (none)) else (none)) else (none)))) else (none))) = some r := by rw [if_pos rfl] at H; exact H
                            clear H
                            have H := H1
                            clear H1
                            obtain ⟨y310, hy310⟩ : ∃ y_ : List (S38), y_ = (([] : List (S38))) := ⟨_, rfl⟩
                            replace H : (if y310.length + l0.length < 8796093022208 then ((some (y310 ++ l0 : List (S38))).bind fun y313 => (if (wrap64 ((l0.length : Int) - 1)) = 0 then (none) else (if 0 ≤ (wrap64 ((Int.tmod (ji44) (wrap64 ((l0.length : Int) - 1))) + 1)) then (if (wrap64 ((Int.tmod (ji44) (wrap64 ((l0.length : Int) - 1))) + 1)) < (l0.length : Int) then (if 0 ≤ (Int.tmod (ji44) (wrap64 ((l0.length : Int) - 1))) then (if (Int.tmod (ji44) (wrap64 ((l0.length : Int) - 1))) < (y313.length : Int) then (if (Int.tmod (ji44) (wrap64 ((l0.length : Int) - 1))) < (l0.length : Int) then (if (wrap64 ((Int.tmod (ji44) (wrap64 ((l0.length : Int) - 1))) + 1)) < (y313.length : Int) then ((leaps_Valid.f ((y313.set ((Int.tmod (ji44) (wrap64 ((l0.length : Int) - 1))) : Int).toNat (⟨(rd_T38 l0 (wrap64 ((Int.tmod (ji44) (wrap64 ((l0.length : Int) - 1))) + 1))).f0, (rd_T38 l0 (wrap64 ((Int.tmod (ji44) (wrap64 ((l0.length : Int) - 1))) + 1))).f1⟩ : S38)).set ((wrap64 ((Int.tmod (ji44) (wrap64 ((l0.length : Int) - 1))) + 1)) : Int).toNat (⟨(rd_T38 l0 (Int.tmod (ji44) (wrap64 ((l0.length : Int) - 1)))).f0, (rd_T38 l0 (Int.tmod (ji44) (wrap64 ((l0.length : Int) - 1)))).f1⟩ : S38)) 4).bind fun t320 => (some (!t320))) else (none)) else (none)) else (none)) else (none)) else (none)) else (none)))) else (none)) = some r := by first | (rw [hy310]; with_reducible exact H) | (have H2_ := (Option.bind_some _ _).symm.trans H; rw [hy310]; with_reducible exact H2_) | (have H2_ := (Option.bind_some _ _).symm.trans H; with_reducible exact H2_) | with_reducible exact H | (rw [hy310]; exact H) | exact H
                            have Ny310 := Aside0.mk hy310
                            clear hy310
                            by_cases c49 : y310.length + l0.length < 8796093022208
                            · rw [if_pos c49] at H
                              have LMc49 := Aside0.mk c49
                              clear c49
                              obtain ⟨y313, hy313⟩ : ∃ y_ : List (S38), y_ = (y310 ++ l0) := ⟨_, rfl⟩
                              replace H : (if (wrap64 ((l0.length : Int) - 1)) = 0 then (none) else (if 0 ≤ (wrap64 ((Int.tmod (ji44) (wrap64 ((l0.length : Int) - 1))) + 1)) then (if (wrap64 ((Int.tmod (ji44) (wrap64 ((l0.length : Int) - 1))) + 1)) < (l0.length : Int) then (if 0 ≤ (Int.tmod (ji44) (wrap64 ((l0.length : Int) - 1))) then (if (Int.tmod (ji44) (wrap64 ((l0.length : Int) - 1))) < (y313.length : Int) then (if (Int.tmod (ji44) (wrap64 ((l0.length : Int) - 1))) < (l0.length : Int) then (if (wrap64 ((Int.tmod (ji44) (wrap64 ((l0.length : Int) - 1))) + 1)) < (y313.length : Int) then ((leaps_Valid.f ((y313.set ((Int.tmod (ji44) (wrap64 ((l0.length : Int) - 1))) : Int).toNat (⟨(rd_T38 l0 (wrap64 ((Int.tmod (ji44) (wrap64 ((l0.length : Int) - 1))) + 1))).f0, (rd_T38 l0 (wrap64 ((Int.tmod (ji44) (wrap64 ((l0.length : Int) - 1))) + 1))).f1⟩ : S38)).set ((wrap64 ((Int.tmod (ji44) (wrap64 ((l0.length : Int) - 1))) + 1)) : Int).toNat (⟨(rd_T38 l0 (Int.tmod (ji44) (wrap64 ((l0.length : Int) - 1)))).f0, (rd_T38 l0 (Int.tmod (ji44) (wrap64 ((l0.length : Int) - 1)))).f1⟩ : S38)) 4).bind fun t320 => (some (!t320))) else (none)) else (none)) else (none)) else (none)) else (none)) else (none))) = some r := by first | (rw [hy313]; with_reducible exact H) | (have H2_ := (Option.bind_some _ _).symm.trans H; rw [hy313]; with_reducible exact H2_) | (have H2_ := (Option.bind_some _ _).symm.trans H; with_reducible exact H2_) | with_reducible exact H | (rw [hy313]; exact H) | exact H
                              have Ny313 := Aside0.mk hy313
                              clear hy313
                              by_cases c50 : (wrap64 ((l0.length : Int) - 1)) = 0
                              · rw [if_pos c50] at H
                                exact absurd H (by simp)
                              · rw [if_neg c50] at H
                                have c50b0 : ((wrap64 ((l0.length : Int) - 1)) == 0) = false := beq_eq_false_iff_ne.mpr c50
                                have c50b1 : ((wrap64 ((l0.length : Int) - 1)) != 0) = true := bne_iff_ne.mpr c50
                                obtain ⟨ji51, hji51⟩ : ∃ j_ : Int, (wrap64 ((Int.tmod (ji44) (wrap64 ((l0.length : Int) - 1))) + 1)) = j_ := ⟨_, rfl⟩
                                replace H : (if 0 ≤ (ji51) then (if (ji51) < (l0.length : Int) then (if 0 ≤ (Int.tmod (ji44) (wrap64 ((l0.length : Int) - 1))) then (if (Int.tmod (ji44) (wrap64 ((l0.length : Int) - 1))) < (y313.length : Int) then (if (Int.tmod (ji44) (wrap64 ((l0.length : Int) - 1))) < (l0.length : Int) then (if (ji51) < (y313.length : Int) then ((leaps_Valid.f ((y313.set ((Int.tmod (ji44) (wrap64 ((l0.length : Int) - 1))) : Int).toNat (⟨(rd_T38 l0 (ji51)).f0, (rd_T38 l0 (ji51)).f1⟩ : S38)).set ((ji51) : Int).toNat (⟨(rd_T38 l0 (Int.tmod (ji44) (wrap64 ((l0.length : Int) - 1)))).f0, (rd_T38 l0 (Int.tmod (ji44) (wrap64 ((l0.length : Int) - 1)))).f1⟩ : S38)) 4).bind fun t320 => (some (!t320))) else (none)) else (none)) else (none)) else (none)) else (none)) else (none)) = some r := by first | (rw [hji51] at H; exact H) | (simp only [hji51] at H ⊢; exact H)
                                (try rw [hji51] at A47)
                                have hji51w : (IntKind.i64.wrap ((Int.tmod (ji44) (wrap64 ((l0.length : Int) - 1))) + 1)) = ji51 := (i64_w _).trans hji51
                                by_cases c52 : 0 ≤ (ji51)
                                · rw [if_pos c52] at H
                                  have c52b0 : decide (0 ≤ (ji51)) = true := decide_eq_true c52
                                  clear c52
                                  by_cases c53 : (ji51) < (l0.length : Int)
                                  · rw [if_pos c53] at H
                                    have c53b0 : decide ((ji51) < (l0.length : Int)) = true := decide_eq_true c53
                                    clear c53
                                    obtain ⟨ji54, hji54⟩ : ∃ j_ : Int, (Int.tmod (ji44) (wrap64 ((l0.length : Int) - 1))) = j_ := ⟨_, rfl⟩
                                    have hji51x_: (wrap64 (ji54 + 1)) = ji51 := by rw [← hji54]; exact hji51
                                    replace H : (if 0 ≤ (ji54) then (if (ji54) < (y313.length : Int) then (if (ji54) < (l0.length : Int) then (if (ji51) < (y313.length : Int) then ((leaps_Valid.f ((y313.set ((ji54) : Int).toNat (⟨(rd_T38 l0 (ji51)).f0, (rd_T38 l0 (ji51)).f1⟩ : S38)).set ((ji51) : Int).toNat (⟨(rd_T38 l0 (ji54)).f0, (rd_T38 l0 (ji54)).f1⟩ : S38)) 4).bind fun t320 => (some (!t320))) else (none)) else (none)) else (none)) else (none)) = some r := by first | (rw [hji54] at H; exact H) | (simp only [hji54] at H ⊢; exact H)
                                    (try rw [hji54] at A47)
                                    by_cases c55 : 0 ≤ (ji54)
                                    · rw [if_pos c55] at H
                                      have c55b0 : decide (0 ≤ (ji54)) = true := decide_eq_true c55
                                      clear c55
                                      by_cases c56 : (ji54) < (y313.length : Int)
                                      · rw [if_pos c56] at H
                                        have c56b0 : decide ((ji54) < (y313.length : Int)) = true := decide_eq_true c56
                                        clear c56
                                        obtain ⟨y317, hy317⟩ : ∃ y_ : List (S38), y_ = (y313.set ((ji54) : Int).toNat (⟨(rd_T38 l0 (ji51)).f0, (rd_T38 l0 (ji51)).f1⟩ : S38)) := ⟨_, rfl⟩
                                        replace H : (if (ji54) < (l0.length : Int) then (if (ji51) < (y313.length : Int) then ((leaps_Valid.f (y317.set ((ji51) : Int).toNat (⟨(rd_T38 l0 (ji54)).f0, (rd_T38 l0 (ji54)).f1⟩ : S38)) 4).bind fun t320 => (some (!t320))) else (none)) else (none)) = some r := by first | (rw [hy317]; with_reducible exact H) | (have H2_ := (Option.bind_some _ _).symm.trans H; rw [hy317]; with_reducible exact H2_) | (have H2_ := (Option.bind_some _ _).symm.trans H; with_reducible exact H2_) | with_reducible exact H | (rw [hy317]; exact H) | exact H
                                        have Ny317 := Aside0.mk hy317
                                        clear hy317
                                        by_cases c58 : (ji54) < (l0.length : Int)
                                        · rw [if_pos c58] at H
                                          have c58b0 : decide ((ji54) < (l0.length : Int)) = true := decide_eq_true c58
                                          clear c58
                                          by_cases c59 : (ji51) < (y313.length : Int)
                                          · rw [if_pos c59] at H
                                            have c59b0 : decide ((ji51) < (y313.length : Int)) = true := decide_eq_true c59
                                            clear c59
                                            obtain ⟨y319, hy319⟩ : ∃ y_ : List (S38), y_ = (y317.set ((ji51) : Int).toNat (⟨(rd_T38 l0 (ji54)).f0, (rd_T38 l0 (ji54)).f1⟩ : S38)) := ⟨_, rfl⟩
                                            replace H : ((leaps_Valid.f y319 4).bind fun t320 => (some (!t320))) = some r := by first | (rw [hy319]; with_reducible exact H) | (have H2_ := (Option.bind_some _ _).symm.trans H; rw [hy319]; with_reducible exact H2_) | (have H2_ := (Option.bind_some _ _).symm.trans H; with_reducible exact H2_) | with_reducible exact H | (rw [hy319]; exact H) | exact H
                                            have Ny319 := Aside0.mk hy319
                                            clear hy319
                                            replace H := Option.bind_eq_some_iff.mp H
                                            obtain ⟨t320, A610, H⟩ := H
                                            replace H : (some (!t320)) = some r := H
                                            have A61 := Aside0.mk A610
                                            clear A610
                                            obtain rfl := Option.some.inj H
                                            have q62 : ((ji44) : Int) ≤ ((l0.length : Int) : Int) := of_decide_eq_true (by first | (with_reducible assumption) | assumption)
                                            obtain ⟨i062, hi062, _, hsz62, _⟩ := info_parts info38
                                            have hroom62 : l0.length ≤ c0 := HC0.out
                                            have hC62 : Kd.C k38 _ A0 l0.length l0 := HR0.out
                                            have hcut62 := cut_to (P := Tryd.prog) 23 38 .i64 Tryd.underlying23 hi062 A0 l0.length c0 (ji44) (of_decide_eq_true (by first | (with_reducible assumption) | assumption)) q62 hroom62
                                            have hr62 := Kd.C_take (m := ((ji44) : Int).toNat) hC62 (by omega)
                                            have hy62 : y305.length = ((ji44) : Int).toNat := (by rw [Ny305.out, List.length_take]; omega)
                                            rw [← Ny305.out] at hr62
                                            rw [← hy62] at hcut62
                                            have HR308 := Aside0.mk hr62
                                            have HC308 := Aside0.mk (show y305.length ≤ c0 from by omega)
                                            clear hr62 hC62 hroom62 hi062 hsz62
                                            have KY62 := Aside0.mk hy62
                                            clear hy62
                                            replace q62 := eq_true q62
                                            go_wp2_with (first | ((with_reducible refine gate_callee (f := 15) rfl ?_); refine goesL_ (some 64) rfl rfl Tryd.func15 (by kernel_rfl) rfl #[.slice A0 y305.length c0, .int .i64 4] rfl (by (try simp only [List.map_toArray, List.map_cons, List.map_nil]); first | done | rfl | (simp only [List.length_drop, List.length_take]; rfl)) ?_; (with_reducible refine (leaps_Valid.calls _ _ y305 4 true _ ?side1 ?side2 ?side3 A47.out).mono ?_); (case side1 => repeat (first | exact (Kd.C_below HR308.out HB.out) | (with_reducible refine Kd.C_alloc ?_ _) | (with_reducible refine Kd.C_drewN ?_ _) | (with_reducible refine Kd.C_drew ?_))); (case side2 => exact HC308.out); (case side3 => repeat (first | exact (Kd.C_below HRg.out HB.out) | (with_reducible refine Kd.C_alloc ?_ _) | (with_reducible refine Kd.C_drewN ?_ _) | (with_reducible refine Kd.C_drew ?_))); rintro e w63 ⟨rfl, hb⟩; refine ⟨_, rfl, ?_⟩; have n0_ := Aside0.mk (below_step (by repeat (first | (with_reducible first | exact HB.out | apply below_alloc | apply pw_below_drewN | apply below_drew1) | exact HB.out)) hb); clear HB; have HB := n0_; clear n0_; (try clear hb); (try clear hb2); (try clear hk); (try clear hi)) | ((with_reducible refine gate_dst (N := 66) rfl ?_); (try (refine gate_guard (by rfl) ?_; dsimp only)); refine Kd.R_lit k38 _ 38 ?hg (N := 66) ?hd (xs := ([] : List (S38))) (inner := []) (ok := fun _ => True) (okp := fun _ => True) ?hr ?hp (fun _ hk => hk) trivial (Below.refl _ _) (Nat.le_refl _) (by simp) ?_; (case hd => rfl); (case hg => rfl); (case hr => first | (go_simp; done) | (go_simp; rfl)); (case hp => exact (Reps.none _ _)); intro v311 w64 ho65 hb hg_ hnew_; clear hg_ hnew_; (first | rw [← Ny310.out] at ho65 | (simp only [Int.reduceToNat] at ho65; rw [← Ny310.out] at ho65)); have n0_ := Aside0.mk (Kd.R_lower ho65 (below_size (by repeat (first | (with_reducible first | exact HB.out | apply below_alloc | apply pw_below_drewN | apply below_drew1) | exact HB.out)))); have n1_ := Aside0.mk (below_step (by repeat (first | (with_reducible first | exact HB.out | apply below_alloc | apply pw_below_drewN | apply below_drew1) | exact HB.out)) hb); clear HB; have HO312 := n0_; have HB := n1_; clear n0_ n1_; clear hb ho65) | ((with_reducible refine gate_builtin (b := .append) (xs := #[.tmp 66, .tmp 67]) rfl ?_); (try (refine gate_guard (by rfl) ?_; dsimp only)); at_builtin; refine Kd.R_append_rows k38 (w0 := w) w.heap.size rfl (.tmp 66) (.tmp 67) 23 38 (.agg #[(.int .i64 0), (.int .i32 0)]) 16 rfl Tryd.underlying23 info38 rfl (by decide) (by omega) v311 y310 l0 _ _ _ (fun _ => True) (fun _ => False) rfl rfl ?aO ?aR (fun _ _ h => h) (fun _ h => h.elim) ?aF ?aB ?aS ?aL ?_; (case aR => repeat (first | exact (Kd.C_below HR0.out HB.out) | (with_reducible refine Kd.C_alloc ?_ _) | (with_reducible refine Kd.C_drewN ?_ _) | (with_reducible refine Kd.C_drew ?_))); (case aB => exact (by repeat (first | (with_reducible first | exact HB.out | apply below_alloc | apply pw_below_drewN | apply below_drew1) | exact HB.out))); (case aF => exact (fun _ _ => trivial)); (case aO => exact (by (with_reducible repeat (first | apply Kd.R_alloc | apply Kd.R_drewN | apply Kd.R_drew)); exact HO312.out)); (case aS => exact (below_size (by repeat (first | (with_reducible first | exact HB.out | apply below_alloc | apply pw_below_drewN | apply below_drew1) | exact HB.out)))); (case aL => have := LMc49.out; omega); intro v314 w66 ho hb hg hat; rw [← Ny313.out] at ho; have n0_ := Aside0.mk (hb); have n1_ := Aside0.mk (ho); clear HB; clear HO312; have HB := n0_; have HO315 := n1_; clear n0_ n1_; clear ho hb hg hat; have p316 : 0 ≤ ((ji51) : Int) := of_decide_eq_true (by first | (with_reducible assumption) | assumption); have q316 : (ji51) < (l0.length : Int) := of_decide_eq_true (by first | (with_reducible assumption) | assumption); obtain ⟨ad316, e316, hx316_0, hx316_1⟩ := at_T38 HR0.out (ji51) p316 q316; cases e316; replace hx316_0 := (HB.out.cell (World.block_lt_of_cell? w _ hx316_0)).trans hx316_0; replace hx316_1 := (HB.out.cell (World.block_lt_of_cell? w _ hx316_1)).trans hx316_1; replace p316 := eq_true p316; replace q316 := eq_true q316; have p57 : 0 ≤ ((ji54) : Int) := of_decide_eq_true (by first | (with_reducible assumption) | assumption); have q57 : ((ji54) : Int) < ((y313.length : Int) : Int) := of_decide_eq_true (by first | (with_reducible assumption) | assumption); obtain ⟨go57, co57, eo57, gb57, gl57, cl57, HG57⟩ := Kd.R_form HO315.out (by omega); (first | cases eo57 | (injection eo57 with ea_ en_ ec_; (first | subst ea_ | (injection ea_ with ea_; subst ea_)); subst ec_; clear en_)); have GB57 := Aside0.mk gb57; have GG57 := Aside0.mk HG57; clear gb57 gl57 HG57; obtain ⟨ce57, hcl57, hM57, hcc57, hfr57⟩ := Kd.R_elem HO315.out z38 ((ji54) : Int) p57 q57; obtain rfl := k38_openM hM57; have hx57_0 : w66.cell? ⟨go57, ((ji54) : Int).toNat * 2, none⟩ = some (.int .i64 ((rd_T38 y313 (ji54)).f0)) := hcc57 0 _ rfl; have hx57_1 : w66.cell? ⟨go57, ((ji54) : Int).toNat * 2 + 1, none⟩ = some (.int .i32 ((rd_T38 y313 (ji54)).f1)) := hcc57 1 _ rfl; have hf57_0 : w66.frozen? ⟨go57, ((ji54) : Int).toNat * 2, none⟩ = false := hfr57 0; have hf57_1 : w66.frozen? ⟨go57, ((ji54) : Int).toNat * 2 + 1, none⟩ = false := hfr57 1; clear hcl57 hcc57 hfr57 hM57; replace p57 := eq_true p57; replace q57 := eq_true q57; have HX67 := Aside0.mk (show Kd.R k38 38 w66 w.heap.size (fun _ => True) (.slice (some ⟨go57, 0, none⟩) y313.length co57) y313 from (by (with_reducible repeat (first | apply Kd.R_alloc | apply Kd.R_drewN | apply Kd.R_drew)); exact HO315.out)); obtain ⟨ce67, hcl67, hM67, hcc67, hfr67⟩ := Kd.R_elem HX67.out z38 ((ji54) : Int) (of_decide_eq_true (by first | (with_reducible assumption) | assumption)) (by have h_ : ((ji54) : Int) < ((y313.length : Int) : Int) := of_decide_eq_true (by first | (with_reducible assumption) | assumption); first | exact h_ | (have e_ := (Kd.R_reads' HO315.out).1; omega) | simpa using h_); obtain rfl := k38_openM hM67; have HP67 := Kd.R_seg HX67.out ((ji54) : Int) (of_decide_eq_true (by first | (with_reducible assumption) | assumption)) (by have h_ : ((ji54) : Int) < ((y313.length : Int) : Int) := of_decide_eq_true (by first | (with_reducible assumption) | assumption); first | exact h_ | (have e_ := (Kd.R_reads' HO315.out).1; omega) | simpa using h_) (seg := [.int .i64 ((rd_T38 l0 (ji51)).f0), .int .i32 ((rd_T38 l0 (ji51)).f1)]) (j := 0) hcl67 hcc67 (show 2 ≤ 2 from by decide) (x' := (⟨(rd_T38 l0 (ji51)).f0, (rd_T38 l0 (ji51)).f1⟩ : S38)) (k38_mkM _ _ _ (⟨(rd_T38 l0 (ji51)).f0, (rd_T38 l0 (ji51)).f1⟩ : S38) ) (fun _ hk => hk); have hx67_0 := hcc67 0 _ rfl; (try simp only [show (k38).sz = 2 from rfl, Nat.mul_one, Nat.add_zero] at hx67_0); have hf67_0 := hfr67 0; (try simp only [show (k38).sz = 2 from rfl, Nat.mul_one, Nat.add_zero] at hf67_0); have hx67_1 := hcc67 1 _ rfl; (try simp only [show (k38).sz = 2 from rfl, Nat.mul_one, Nat.add_zero] at hx67_1); have hf67_1 := hfr67 1; (try simp only [show (k38).sz = 2 from rfl, Nat.mul_one, Nat.add_zero] at hf67_1); clear hcl67 hcc67 hfr67 hM67) | ((with_reducible refine gate_store (t := 38) (p := 81) rfl ?_); refine store_event (t := 38) (p := 81) (v := ?vo_w68) (w1 := ((w66.setCell ⟨go57, ((ji54) : Int).toNat * 2, none⟩ (.int .i64 ((rd_T38 l0 (ji51)).f0))).setCell ⟨go57, ((ji54) : Int).toNat * 2 + 1, none⟩ (.int .i32 ((rd_T38 l0 (ji51)).f1)))) ?hg ?ho ?hn ?hr ?_; (case ho => rfl); (case hg => rfl); (case hn => rfl); (case hr => first | (go_simp; done) | (go_simp; rfl)); intro w68 hw; have hg : w66.grownBy w68 (some go57) := (by rw [hw]; exact HP67.2); have hp_ : Kd.R k38 38 w68 w.heap.size (fun _ => True) (.slice (some ⟨go57, 0, none⟩) y313.length co57) y317 := (by rw [hw, Ny317.out]; exact HP67.1); clear HP67; have n0_ := Aside0.mk (hp_); have n1_ := Aside0.mk ((by rw [hw]; exact below_set (below_set (HB.out) GB57.out) GB57.out : Below w.heap.size w w68)); clear HO315; clear HB; have HO315 := n0_; have HB := n1_; clear n0_ n1_; clear hg hw hp_; have p318 : 0 ≤ ((ji54) : Int) := of_decide_eq_true (by first | (with_reducible assumption) | assumption); have q318 : (ji54) < (l0.length : Int) := of_decide_eq_true (by first | (with_reducible assumption) | assumption); obtain ⟨ad318, e318, hx318_0, hx318_1⟩ := at_T38 HR0.out (ji54) p318 q318; obtain rfl : ad316 = ad318 := (by injection e318); replace hx318_0 := (HB.out.cell (World.block_lt_of_cell? w _ hx318_0)).trans hx318_0; replace hx318_1 := (HB.out.cell (World.block_lt_of_cell? w _ hx318_1)).trans hx318_1; replace p318 := eq_true p318; replace q318 := eq_true q318; have p60 : 0 ≤ ((ji51) : Int) := of_decide_eq_true (by first | (with_reducible assumption) | assumption); have q60 : ((ji51) : Int) < ((y313.length : Int) : Int) := of_decide_eq_true (by first | (with_reducible assumption) | assumption); obtain ⟨ce60, hcl60, hM60, hcc60, hfr60⟩ := Kd.R_elem HO315.out z38 ((ji51) : Int) p60 q60; obtain rfl := k38_openM hM60; have hx60_0 : w68.cell? ⟨go57, ((ji51) : Int).toNat * 2, none⟩ = some (.int .i64 ((rd_T38 y317 (ji51)).f0)) := hcc60 0 _ rfl; have hx60_1 : w68.cell? ⟨go57, ((ji51) : Int).toNat * 2 + 1, none⟩ = some (.int .i32 ((rd_T38 y317 (ji51)).f1)) := hcc60 1 _ rfl; have hf60_0 : w68.frozen? ⟨go57, ((ji51) : Int).toNat * 2, none⟩ = false := hfr60 0; have hf60_1 : w68.frozen? ⟨go57, ((ji51) : Int).toNat * 2 + 1, none⟩ = false := hfr60 1; clear hcl60 hcc60 hfr60 hM60; replace p60 := eq_true p60; replace q60 := eq_true q60; have HX69 := Aside0.mk (show Kd.R k38 38 w68 w.heap.size (fun _ => True) (.slice (some ⟨go57, 0, none⟩) y313.length co57) y317 from (by (with_reducible repeat (first | apply Kd.R_alloc | apply Kd.R_drewN | apply Kd.R_drew)); exact HO315.out)); obtain ⟨ce69, hcl69, hM69, hcc69, hfr69⟩ := Kd.R_elem HX69.out z38 ((ji51) : Int) (of_decide_eq_true (by first | (with_reducible assumption) | assumption)) (by have h_ : ((ji51) : Int) < ((y313.length : Int) : Int) := of_decide_eq_true (by first | (with_reducible assumption) | assumption); first | exact h_ | (have e_ := (Kd.R_reads' HO315.out).1; omega) | simpa using h_); obtain rfl := k38_openM hM69; have HP69 := Kd.R_seg HX69.out ((ji51) : Int) (of_decide_eq_true (by first | (with_reducible assumption) | assumption)) (by have h_ : ((ji51) : Int) < ((y313.length : Int) : Int) := of_decide_eq_true (by first | (with_reducible assumption) | assumption); first | exact h_ | (have e_ := (Kd.R_reads' HO315.out).1; omega) | simpa using h_) (seg := [.int .i64 ((rd_T38 l0 (ji54)).f0), .int .i32 ((rd_T38 l0 (ji54)).f1)]) (j := 0) hcl69 hcc69 (show 2 ≤ 2 from by decide) (x' := (⟨(rd_T38 l0 (ji54)).f0, (rd_T38 l0 (ji54)).f1⟩ : S38)) (k38_mkM _ _ _ (⟨(rd_T38 l0 (ji54)).f0, (rd_T38 l0 (ji54)).f1⟩ : S38) ) (fun _ hk => hk); have hx69_0 := hcc69 0 _ rfl; (try simp only [show (k38).sz = 2 from rfl, Nat.mul_one, Nat.add_zero] at hx69_0); have hf69_0 := hfr69 0; (try simp only [show (k38).sz = 2 from rfl, Nat.mul_one, Nat.add_zero] at hf69_0); have hx69_1 := hcc69 1 _ rfl; (try simp only [show (k38).sz = 2 from rfl, Nat.mul_one, Nat.add_zero] at hx69_1); have hf69_1 := hfr69 1; (try simp only [show (k38).sz = 2 from rfl, Nat.mul_one, Nat.add_zero] at hf69_1); clear hcl69 hcc69 hfr69 hM69) | ((with_reducible refine gate_store (t := 38) (p := 89) rfl ?_); refine store_event (t := 38) (p := 89) (v := ?vo_w70) (w1 := ((w68.setCell ⟨go57, ((ji51) : Int).toNat * 2, none⟩ (.int .i64 ((rd_T38 l0 (ji54)).f0))).setCell ⟨go57, ((ji51) : Int).toNat * 2 + 1, none⟩ (.int .i32 ((rd_T38 l0 (ji54)).f1)))) ?hg ?ho ?hn ?hr ?_; (case ho => rfl); (case hg => rfl); (case hn => rfl); (case hr => first | (go_simp; done) | (go_simp; rfl)); intro w70 hw; have hg : w68.grownBy w70 (some go57) := (by rw [hw]; exact HP69.2); have hp_ : Kd.R k38 38 w70 w.heap.size (fun _ => True) (.slice (some ⟨go57, 0, none⟩) y313.length co57) y319 := (by rw [hw, Ny319.out]; exact HP69.1); clear HP69; have n0_ := Aside0.mk (hp_); have n1_ := Aside0.mk ((by rw [hw]; exact below_set (below_set (HB.out) GB57.out) GB57.out : Below w.heap.size w w70)); clear HO315; clear HB; have HO315 := n0_; have HB := n1_; clear n0_ n1_; clear hg hw hp_) | ((with_reducible refine gate_callee (f := 15) rfl ?_); refine goesL_ (some 91) rfl rfl Tryd.func15 (by kernel_rfl) rfl #[.slice (some ⟨go57, 0, none⟩) y319.length co57, .int .i64 4] rfl (by (try simp only [List.map_toArray, List.map_cons, List.map_nil]); first | done | (rw [show y319.length = y313.length from (Kd.R_reads' HO315.out).1.symm] <;> rfl) | rfl | (simp only [List.length_drop, List.length_take]; rfl)) ?_; (with_reducible refine (leaps_Valid.calls _ _ y319 4 t320 _ ?side1 ?side2 ?side3 A61.out).mono ?_); (case side1 => repeat (first | exact (Kd.R_reads' HO315.out).2.2 | (with_reducible refine Kd.C_alloc ?_ _) | (with_reducible refine Kd.C_drewN ?_ _) | (with_reducible refine Kd.C_drew ?_))); (case side2 => rw [show y319.length = y313.length from (Kd.R_reads' HO315.out).1.symm]; exact (Kd.R_reads' HO315.out).2.1); (case side3 => repeat (first | exact (Kd.C_below HRg.out HB.out) | (with_reducible refine Kd.C_alloc ?_ _) | (with_reducible refine Kd.C_drewN ?_ _) | (with_reducible refine Kd.C_drew ?_))); rintro e w71 ⟨rfl, hb⟩; refine ⟨_, rfl, ?_⟩; have n0_ := Aside0.mk (Kd.R_below (by (with_reducible repeat (first | apply Kd.R_alloc | apply Kd.R_drewN | apply Kd.R_drew)); exact HO315.out) hb); have n1_ := Aside0.mk (below_step (by repeat (first | (with_reducible first | exact HB.out | apply below_alloc | apply pw_below_drewN | apply below_drew1) | exact HB.out)) hb); clear HO315; clear HB; have HO315 := n0_; have HB := n1_; clear n0_ n1_; (try clear hb); (try clear hb2); (try clear hk); (try clear hi)))
                                            go_ret
                                            exact ⟨by first | rfl | (simp [errW_none, errW_some] <;> rfl) | (simp only [← hji44, ← hji51, ← hji54]; first | rfl | (simp [errW_none, errW_some] <;> rfl)) | (simp [*, errW_none, errW_some] <;> rfl), by repeat (first | (with_reducible first | exact HB.out | apply below_alloc | apply pw_below_drewN | apply below_drew1) | exact HB.out)⟩
                                          · rw [if_neg c59] at H
                                            exact absurd H (by simp)
                                        · rw [if_neg c58] at H
                                          exact absurd H (by simp)
                                      · rw [if_neg c56] at H
                                        exact absurd H (by simp)
                                    · rw [if_neg c55] at H
                                      exact absurd H (by simp)
                                  · rw [if_neg c53] at H
                                    exact absurd H (by simp)
                                · rw [if_neg c52] at H
                                  exact absurd H (by simp)
                            · rw [if_neg c49] at H
                              exact absurd H (by simp)
                          · replace c48 := Bool.eq_false_iff.mpr c48
                            subst c48
                            have H1 : (none) = some r := by rw [if_neg (show ¬ (false = true) by decide)] at H; exact H
                            clear H
                            have H := H1
                            clear H1
                            exact absurd H (by simp)
                        · rw [if_neg c46] at H
                          exact absurd H (by simp)
                      · rw [if_neg c45] at H
                        exact absurd H (by simp)

end Go.Proofs.YtiaobffdggeofaaDoor.G
