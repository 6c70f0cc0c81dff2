/- Written by a program of this session for this seat: contracts of the functions that its laws reach, or the row of a law over its plain part. -/
import Derived.Test.YtchlggnbgabddaaGx0
import Derived.Test.YtchlggnbgabddaaGx15
import Derived.Test.YtchlggnbgabddaaGx18
import Derived.Test.YtchlggnbgabddaaGx21
namespace Go.Proofs.Ytchlggnbgabddaa.G
open Go.RowKit Go.Proofs.YtchlggnbgabddaaW.PrintWords Go.Proofs.YtchlggnbgabddaaW.PrintLast Go.Proofs.YtchlggnbgabddaaW.PrintMore
attribute [local go_sem] max2_int min2_int max_two min_two max_three min_three max_four min_four   -- for this text's walks alone
set_option linter.unusedVariables false
set_option linter.unusedSimpArgs false

/-! ### zoneinfolaw12_DesigsNamesAreSuffixes: function 5 -/
mutual
def zoneinfolaw12_DesigsNamesAreSuffixes.j0 : Nat → List Int → Int → Bool → Option (Bool)
  | 0, _, _, _ => none
  | k + 1, x0, x1, x24 => if x24 = true then ((zoneinfolaw12_awake.f k).bind fun t236 => (some t236)) else ((desigs_Name.f x0 x1).bind fun bt237 => (if x1 ≥ 0 then (zoneinfolaw12_DesigsNamesAreSuffixes.j1 k x0 x1 bt237.1 bt237.2 (bt237.2 != (decide (x1 < (x0.length : Int))))) else (zoneinfolaw12_DesigsNamesAreSuffixes.j1 k x0 x1 bt237.1 bt237.2 (bt237.2 != false))))
def zoneinfolaw12_DesigsNamesAreSuffixes.j1 : Nat → List Int → Int → ByteArray → Bool → Bool → Option (Bool)
  | 0, _, _, _, _, _ => none
  | k + 1, x0, x1, x5, x6, x41 => if x41 = true then (none) else (if x6 = true then (if (wrap64 (x1 + (x5.size : Int))) ≥ (x0.length : Int) then (none) else (if 0 ≤ (wrap64 (x1 + (x5.size : Int))) then (if (wrap64 (x1 + (x5.size : Int))) < (x0.length : Int) then (if (rd x0 (wrap64 (x1 + (x5.size : Int)))) = 0 then (if 0 ≤ x1 then (if x1 ≤ (wrap64 (x1 + (x5.size : Int))) then (if (wrap64 (x1 + (x5.size : Int))) ≤ (x0.length : Int) then (zoneinfolaw12_DesigsNamesAreSuffixes.j2 k x0 x1 x5 ((strOfNums ((x0.take ((wrap64 (x1 + (x5.size : Int))) : Int).toNat).drop (x1 : Int).toNat)).toList != x5.toList)) else (none)) else (none)) else (none)) else (none)) else (none)) else (none))) else (some (x5.toList == ([] : List UInt8))))
def zoneinfolaw12_DesigsNamesAreSuffixes.j2 : Nat → List Int → Int → ByteArray → Bool → Option (Bool)
  | 0, _, _, _, _ => none
  | k + 1, x0, x1, x5, x69 => if x69 = true then (none) else (zoneinfolaw12_DesigsNamesAreSuffixes.l0 k x0 x1 x5 0)
def zoneinfolaw12_DesigsNamesAreSuffixes.l0 : Nat → List Int → Int → ByteArray → Int → Option (Bool)
  | 0, _, _, _, _ => none
  | k + 1, x0, x1, x5, x8 => if x8 < (x5.size : Int) then (if 0 ≤ x8 then (if (bt x5 x8) = 0 then (none) else (zoneinfolaw12_DesigsNamesAreSuffixes.l0 k x0 x1 x5 (wrap64 (x8 + 1)))) else (none)) else ((desigs_Name.f x0 (wrap64 ((x0.length : Int) - 1))).bind fun bt244 => (if bt244.2 = true then (if bt244.1.toList = ([] : List UInt8) then (if (x5.size : Int) = 0 then (some (bt244.1.toList == ([] : List UInt8))) else ((desigs_Name.f x0 (wrap64 (x1 + 1))).bind fun bt246 => (if bt246.2 = true then (if 1 ≤ (x5.size : Int) then (some (bt246.1.toList == (x5.extract 1 x5.size).toList)) else (none)) else (none)))) else (some (bt244.1.toList == ([] : List UInt8)))) else (none)))
end
def zoneinfolaw12_DesigsNamesAreSuffixes.f (k : Nat) (l0 : List Int) (a1 : Int) : Option (Bool) := (zoneinfolaw12_awake.f k).bind fun t234 => (if t234 = true then (if (l0.length : Int) > 1000 then (zoneinfolaw12_DesigsNamesAreSuffixes.j0 k l0 a1 true) else ((zoneinforef12_Valid.f k l0).bind fun t235 => (zoneinfolaw12_DesigsNamesAreSuffixes.j0 k l0 a1 (!t235)))) else (zoneinfolaw12_DesigsNamesAreSuffixes.j0 k l0 a1 true))
theorem zoneinfolaw12_DesigsNamesAreSuffixes.mono_l : ∀ k, (∀ y0 y1 y2, LeO (zoneinfolaw12_DesigsNamesAreSuffixes.j0 k y0 y1 y2) (zoneinfolaw12_DesigsNamesAreSuffixes.j0 (k + 1) y0 y1 y2)) ∧ (∀ y0 y1 y2 y3 y4, LeO (zoneinfolaw12_DesigsNamesAreSuffixes.j1 k y0 y1 y2 y3 y4) (zoneinfolaw12_DesigsNamesAreSuffixes.j1 (k + 1) y0 y1 y2 y3 y4)) ∧ (∀ y0 y1 y2 y3, LeO (zoneinfolaw12_DesigsNamesAreSuffixes.j2 k y0 y1 y2 y3) (zoneinfolaw12_DesigsNamesAreSuffixes.j2 (k + 1) y0 y1 y2 y3)) ∧ (∀ y0 y1 y2 y3, LeO (zoneinfolaw12_DesigsNamesAreSuffixes.l0 k y0 y1 y2 y3) (zoneinfolaw12_DesigsNamesAreSuffixes.l0 (k + 1) y0 y1 y2 y3))
  | 0 => ⟨fun _ _ _ r h => by simp [zoneinfolaw12_DesigsNamesAreSuffixes.j0] at h, fun _ _ _ _ _ r h => by simp [zoneinfolaw12_DesigsNamesAreSuffixes.j1] at h, fun _ _ _ _ r h => by simp [zoneinfolaw12_DesigsNamesAreSuffixes.j2] at h, fun _ _ _ _ r h => by simp [zoneinfolaw12_DesigsNamesAreSuffixes.l0] at h⟩
  | k + 1 => by
    obtain ⟨ih0, ih1, ih2, ih3⟩ := zoneinfolaw12_DesigsNamesAreSuffixes.mono_l k
    refine ⟨?_, ?_, ?_, ?_⟩
    · intro y0 y1 y2
      unfold zoneinfolaw12_DesigsNamesAreSuffixes.j0
      repeat' first
      | (with_reducible exact ih0 _ _ _)
      | (with_reducible exact ih1 _ _ _ _ _)
      | (with_reducible exact ih2 _ _ _ _)
      | (with_reducible exact ih3 _ _ _ _)
      | (with_reducible exact zoneinfolaw12_awake.mono _)
      | (with_reducible exact zoneinforef12_Valid.mono _ _)
      | (with_reducible exact LeO.refl _)
      | (with_reducible exact LeO.none _)
      | (with_reducible refine LeO.ite ?_ ?_)
      | (with_reducible refine LeO.bind ?_ (fun _ => ?_))
      | exact ih0 _ _ _
      | exact ih1 _ _ _ _ _
      | exact ih2 _ _ _ _
      | exact ih3 _ _ _ _
      | exact zoneinfolaw12_awake.mono _
      | exact zoneinforef12_Valid.mono _ _
      | exact LeO.none _
      | refine LeO.ite ?_ ?_
      | refine LeO.bind ?_ (fun _ => ?_)
    · intro y0 y1 y2 y3 y4
      unfold zoneinfolaw12_DesigsNamesAreSuffixes.j1
      repeat' first
      | (with_reducible exact ih0 _ _ _)
      | (with_reducible exact ih1 _ _ _ _ _)
      | (with_reducible exact ih2 _ _ _ _)
      | (with_reducible exact ih3 _ _ _ _)
      | (with_reducible exact zoneinfolaw12_awake.mono _)
      | (with_reducible exact zoneinforef12_Valid.mono _ _)
      | (with_reducible exact LeO.refl _)
      | (with_reducible exact LeO.none _)
      | (with_reducible refine LeO.ite ?_ ?_)
      | (with_reducible refine LeO.bind ?_ (fun _ => ?_))
      | exact ih0 _ _ _
      | exact ih1 _ _ _ _ _
      | exact ih2 _ _ _ _
      | exact ih3 _ _ _ _
      | exact zoneinfolaw12_awake.mono _
      | exact zoneinforef12_Valid.mono _ _
      | exact LeO.none _
      | refine LeO.ite ?_ ?_
      | refine LeO.bind ?_ (fun _ => ?_)
    · intro y0 y1 y2 y3
      unfold zoneinfolaw12_DesigsNamesAreSuffixes.j2
      repeat' first
      | (with_reducible exact ih0 _ _ _)
      | (with_reducible exact ih1 _ _ _ _ _)
      | (with_reducible exact ih2 _ _ _ _)
      | (with_reducible exact ih3 _ _ _ _)
      | (with_reducible exact zoneinfolaw12_awake.mono _)
      | (with_reducible exact zoneinforef12_Valid.mono _ _)
      | (with_reducible exact LeO.refl _)
      | (with_reducible exact LeO.none _)
      | (with_reducible refine LeO.ite ?_ ?_)
      | (with_reducible refine LeO.bind ?_ (fun _ => ?_))
      | exact ih0 _ _ _
      | exact ih1 _ _ _ _ _
      | exact ih2 _ _ _ _
      | exact ih3 _ _ _ _
      | exact zoneinfolaw12_awake.mono _
      | exact zoneinforef12_Valid.mono _ _
      | exact LeO.none _
      | refine LeO.ite ?_ ?_
      | refine LeO.bind ?_ (fun _ => ?_)
    · intro y0 y1 y2 y3
      unfold zoneinfolaw12_DesigsNamesAreSuffixes.l0
      repeat' first
      | (with_reducible exact ih0 _ _ _)
      | (with_reducible exact ih1 _ _ _ _ _)
      | (with_reducible exact ih2 _ _ _ _)
      | (with_reducible exact ih3 _ _ _ _)
      | (with_reducible exact zoneinfolaw12_awake.mono _)
      | (with_reducible exact zoneinforef12_Valid.mono _ _)
      | (with_reducible exact LeO.refl _)
      | (with_reducible exact LeO.none _)
      | (with_reducible refine LeO.ite ?_ ?_)
      | (with_reducible refine LeO.bind ?_ (fun _ => ?_))
      | exact ih0 _ _ _
      | exact ih1 _ _ _ _ _
      | exact ih2 _ _ _ _
      | exact ih3 _ _ _ _
      | exact zoneinfolaw12_awake.mono _
      | exact zoneinforef12_Valid.mono _ _
      | exact LeO.none _
      | refine LeO.ite ?_ ?_
      | refine LeO.bind ?_ (fun _ => ?_)
theorem zoneinfolaw12_DesigsNamesAreSuffixes.mono : ∀ a0 a1 k, LeO (zoneinfolaw12_DesigsNamesAreSuffixes.f k a0 a1) (zoneinfolaw12_DesigsNamesAreSuffixes.f (k + 1) a0 a1) := by
  intro a0 a1 k
  obtain ⟨ih0, ih1, ih2, ih3⟩ := zoneinfolaw12_DesigsNamesAreSuffixes.mono_l k
  unfold zoneinfolaw12_DesigsNamesAreSuffixes.f
  repeat' first
      | (with_reducible exact ih0 _ _ _)
      | (with_reducible exact ih1 _ _ _ _ _)
      | (with_reducible exact ih2 _ _ _ _)
      | (with_reducible exact ih3 _ _ _ _)
      | (with_reducible exact zoneinfolaw12_awake.mono _)
      | (with_reducible exact zoneinforef12_Valid.mono _ _)
      | (with_reducible exact LeO.refl _)
      | (with_reducible exact LeO.none _)
      | (with_reducible refine LeO.ite ?_ ?_)
      | (with_reducible refine LeO.bind ?_ (fun _ => ?_))
      | exact ih0 _ _ _
      | exact ih1 _ _ _ _ _
      | exact ih2 _ _ _ _
      | exact ih3 _ _ _ _
      | exact zoneinfolaw12_awake.mono _
      | exact zoneinforef12_Valid.mono _ _
      | exact LeO.none _
      | refine LeO.ite ?_ ?_
      | refine LeO.bind ?_ (fun _ => ?_)
set_option maxHeartbeats 8000000 in
set_option maxRecDepth 100000 in
theorem zoneinfolaw12_DesigsNamesAreSuffixes.calls (k : Nat) (A0 : Option Addr) (c0 : Nat) (l0 : List Int) (a1 : Int) (r : Bool) (w : World) (hr0 : Kd.C (Kd.int .u8) w A0 l0.length l0) (hc0 : l0.length ≤ c0) (h : zoneinfolaw12_DesigsNamesAreSuffixes.f k l0 a1 = some r) :
    Calls Try.prog 5 #[.slice A0 l0.length c0, .int .i64 a1] w fun e w' => e = .returned (.bool r) ∧ Below w.heap.size w w' := by
  have HR0 := Aside0.mk hr0
  have HC0 := Aside0.mk hc0
  clear hr0 hc0
  have HB := Aside0.mk (Below.refl w.heap.size w)
  have H : ((zoneinfolaw12_awake.f k).bind fun t234 => (if t234 = true then (if (l0.length : Int) > 1000 then (zoneinfolaw12_DesigsNamesAreSuffixes.j0 k l0 a1 true) else ((zoneinforef12_Valid.f k l0).bind fun t235 => (zoneinfolaw12_DesigsNamesAreSuffixes.j0 k l0 a1 (!t235)))) else (zoneinfolaw12_DesigsNamesAreSuffixes.j0 k l0 a1 true))) = some r := h
  clear h
  have HC3 := Aside0.mk H
  clear H
  go_enter Try.func5, Try.ntmps5
  (try simp only [List.append_eq, List.cons_append, List.nil_append])
  go_upto_region 1 with (fail)
  go_cut [24] (fun v24 wc => ∃ (kq : Nat) (x24_2 : Bool), v24 = .bool x24_2 ∧ Aside0 (zoneinfolaw12_DesigsNamesAreSuffixes.j0 kq l0 a1 x24_2 = some r) ∧ Aside0 (kq ≤ k) ∧ Aside0 (Below w.heap.size w wc))
  case first =>
    have H := HC3.out
    clear HC3
    replace H := Option.bind_eq_some_iff.mp H
    obtain ⟨t234, A40, H⟩ := H
    replace H : (if t234 = true then (if (l0.length : Int) > 1000 then (zoneinfolaw12_DesigsNamesAreSuffixes.j0 k l0 a1 true) else ((zoneinforef12_Valid.f k l0).bind fun t235 => (zoneinfolaw12_DesigsNamesAreSuffixes.j0 k l0 a1 (!t235)))) else (zoneinfolaw12_DesigsNamesAreSuffixes.j0 k l0 a1 true)) = some r := H
    have A4 := Aside0.mk A40
    clear A40
    by_cases c5 : t234 = true
    · subst c5
      have H1 : (if (l0.length : Int) > 1000 then (zoneinfolaw12_DesigsNamesAreSuffixes.j0 k l0 a1 true) else ((zoneinforef12_Valid.f k l0).bind fun t235 => (zoneinfolaw12_DesigsNamesAreSuffixes.j0 k l0 a1 (!t235)))) = some r := by rw [if_pos rfl] at H; exact H
      clear H
      have H := H1
      clear H1
      by_cases c6 : (l0.length : Int) > 1000
      · rw [if_pos c6] at H
        have c6b0 : decide (1000 < (l0.length : Int)) = true := decide_eq_true c6
        have c6b1 : decide (1000 < l0.length) = true := decide_eq_true (by omega)
        clear c6
        (first | rw [c6b0] | (simp only [i64_w, i32_w]; rw [c6b0]) | skip)
        have H' := Aside0.mk H
        clear H
        go_wp2_with (first | (go_at_call 8; (with_reducible refine (zoneinfolaw12_awake.calls k  true _ A4.out).mono ?_); rintro e w7 ⟨rfl, hb⟩; have n0_ := Aside0.mk (below_step (by repeat (first | (with_reducible first | exact HB.out | apply below_alloc | apply pw_below_drewN | apply below_drew1) | exact HB.out)) hb); clear HB; have HB := n0_; clear n0_; (try clear hb); (try clear hb2); (try clear hk); (try clear hi)))
        go_meet
        case rel => exact ⟨_, (true), (by first | rfl | (simp; done) | (simp [*]; done)), H', ⟨by first | omega | exact Nat.le_refl _⟩, ⟨by repeat (first | (with_reducible first | exact HB.out | apply below_alloc | apply pw_below_drewN | apply below_drew1) | exact HB.out)⟩⟩
      · rw [if_neg c6] at H
        have c6b0 : decide (1000 < (l0.length : Int)) = false := decide_eq_false c6
        have c6b1 : decide (1000 < l0.length) = false := decide_eq_false (by omega)
        clear c6
        (first | rw [c6b0] | (simp only [i64_w, i32_w]; rw [c6b0]) | skip)
        replace H := Option.bind_eq_some_iff.mp H
        obtain ⟨t235, A80, H⟩ := H
        replace H : (zoneinfolaw12_DesigsNamesAreSuffixes.j0 k l0 a1 (!t235)) = some r := H
        have A8 := Aside0.mk A80
        clear A80
        have H' := Aside0.mk H
        clear H
        go_wp2_with (first | (go_at_call 8; (with_reducible refine (zoneinfolaw12_awake.calls k  true _ A4.out).mono ?_); rintro e w9 ⟨rfl, hb⟩; have n0_ := Aside0.mk (below_step (by repeat (first | (with_reducible first | exact HB.out | apply below_alloc | apply pw_below_drewN | apply below_drew1) | exact HB.out)) hb); clear HB; have HB := n0_; clear n0_; (try clear hb); (try clear hb2); (try clear hk); (try clear hi)) | (go_at_call 10; (with_reducible refine (zoneinforef12_Valid.calls k _ _ l0 t235 _ ?side1 ?side2 A8.out).mono ?_); (case side1 => repeat (first | exact (Kd.C_below HR0.out HB.out) | (with_reducible refine Kd.C_alloc ?_ _) | (with_reducible refine Kd.C_drewN ?_ _) | (with_reducible refine Kd.C_drew ?_))); (case side2 => exact HC0.out); rintro e w' ⟨rfl, ⟨nd, rfl⟩⟩))
        go_meet
        case rel => exact ⟨_, (!t235), (by first | rfl | (simp; done) | (simp [*]; done)), H', ⟨by first | omega | exact Nat.le_refl _⟩, ⟨by repeat (first | (with_reducible first | exact HB.out | apply below_alloc | apply pw_below_drewN | apply below_drew1) | exact HB.out)⟩⟩
    · replace c5 := Bool.eq_false_iff.mpr c5
      subst c5
      have H1 : (zoneinfolaw12_DesigsNamesAreSuffixes.j0 k l0 a1 true) = some r := by rw [if_neg (show ¬ (false = true) by decide)] at H; exact H
      clear H
      have H := H1
      clear H1
      have H' := Aside0.mk H
      clear H
      go_wp2_with (first | (go_at_call 8; (with_reducible refine (zoneinfolaw12_awake.calls k  false _ A4.out).mono ?_); rintro e w10 ⟨rfl, hb⟩; have n0_ := Aside0.mk (below_step (by repeat (first | (with_reducible first | exact HB.out | apply below_alloc | apply pw_below_drewN | apply below_drew1) | exact HB.out)) hb); clear HB; have HB := n0_; clear n0_; (try clear hb); (try clear hb2); (try clear hk); (try clear hi)))
      go_meet
      case rel => exact ⟨_, (true), (by first | rfl | (simp; done) | (simp [*]; done)), H', ⟨by first | omega | exact Nat.le_refl _⟩, ⟨by repeat (first | (with_reducible first | exact HB.out | apply below_alloc | apply pw_below_drewN | apply below_drew1) | exact HB.out)⟩⟩
  case rest =>
    clear HC3
    try clear p2
    try clear c5
    try clear c6
    try clear c6b0
    try clear c6b1
    obtain ⟨kq, x24_2, rfl, HA, HJ2, HB⟩ := hcut
    cases kq with
    | zero => exact absurd HA.out (by simp [zoneinfolaw12_DesigsNamesAreSuffixes.j0])
    | succ kj2 =>
      have H := HA.out
      clear HA
      simp only [zoneinfolaw12_DesigsNamesAreSuffixes.j0] at H
      by_cases c11 : x24_2 = true
      · subst c11
        have H1 : ((zoneinfolaw12_awake.f kj2).bind fun t236 => (some t236)) = some r := by rw [if_pos rfl] at H; exact H
        clear H
        have H := H1
        clear H1
        replace H := Option.bind_eq_some_iff.mp H
        obtain ⟨t236, A120, H⟩ := H
        replace H : (some t236) = some r := H
        have A12 := Aside0.mk A120
        clear A120
        obtain rfl := Option.some.inj H
        go_wp2_with (first | ((with_reducible refine gate_callee (f := 8) rfl ?_); refine goesL_ (some 25) rfl rfl Try.func8 (by kernel_rfl) rfl #[] rfl (by (try simp only [List.map_toArray, List.map_cons, List.map_nil]); first | done | rfl | (simp only [List.length_drop, List.length_take]; rfl)) ?_; (with_reducible refine (zoneinfolaw12_awake.calls kj2  t236 _ A12.out).mono ?_); rintro e w13 ⟨rfl, hb⟩; refine ⟨_, rfl, ?_⟩; have n0_ := Aside0.mk (below_step (by repeat (first | (with_reducible first | exact HB.out | apply below_alloc | apply pw_below_drewN | apply below_drew1) | exact HB.out)) hb); clear HB; have HB := n0_; clear n0_; (try clear hb); (try clear hb2); (try clear hk); (try clear hi)))
        go_ret
        exact ⟨by first | rfl | (simp [errW_none, errW_some] <;> rfl) | (simp [*, errW_none, errW_some] <;> rfl), by repeat (first | (with_reducible first | exact HB.out | apply below_alloc | apply pw_below_drewN | apply below_drew1) | exact HB.out)⟩
      · replace c11 := Bool.eq_false_iff.mpr c11
        subst c11
        have H1 : ((desigs_Name.f l0 a1).bind fun bt237 => (if a1 ≥ 0 then (zoneinfolaw12_DesigsNamesAreSuffixes.j1 kj2 l0 a1 bt237.1 bt237.2 (bt237.2 != (decide (a1 < (l0.length : Int))))) else (zoneinfolaw12_DesigsNamesAreSuffixes.j1 kj2 l0 a1 bt237.1 bt237.2 (bt237.2 != false)))) = some r := by rw [if_neg (show ¬ (false = true) by decide)] at H; exact H
        clear H
        have H := H1
        clear H1
        replace H := Option.bind_eq_some_iff.mp H
        obtain ⟨⟨t237, t238⟩, A140, H⟩ := H
        replace H : (if a1 ≥ 0 then (zoneinfolaw12_DesigsNamesAreSuffixes.j1 kj2 l0 a1 t237 t238 (t238 != (decide (a1 < (l0.length : Int))))) else (zoneinfolaw12_DesigsNamesAreSuffixes.j1 kj2 l0 a1 t237 t238 (t238 != false))) = some r := H
        have A14 := Aside0.mk A140
        clear A140
        have HC15 := Aside0.mk H
        clear H
        go_upto_region 4 with (first | ((with_reducible refine gate_callee (f := 13) rfl ?_); refine goesL_ (some 29) rfl rfl Try.func13 (by kernel_rfl) rfl #[.slice A0 l0.length c0, .int .i64 a1] rfl (by (try simp only [List.map_toArray, List.map_cons, List.map_nil]); first | done | rfl | (simp only [List.length_drop, List.length_take]; rfl)) ?_; (with_reducible refine (desigs_Name.calls _ _ l0 a1 t237 t238 _ ?side1 ?side2 A14.out).mono ?_); (case side1 => repeat (first | exact (Kd.C_below HR0.out HB.out) | (with_reducible refine Kd.C_alloc ?_ _) | (with_reducible refine Kd.C_drewN ?_ _) | (with_reducible refine Kd.C_drew ?_))); (case side2 => exact HC0.out); rintro e w16 ⟨rfl, hb⟩; refine ⟨_, rfl, ?_⟩; have n0_ := Aside0.mk (below_step (by repeat (first | (with_reducible first | exact HB.out | apply below_alloc | apply pw_below_drewN | apply below_drew1) | exact HB.out)) hb); clear HB; have HB := n0_; clear n0_; (try clear hb); (try clear hb2); (try clear hk); (try clear hi)))
        (try simp only [Act.put, List.setIfInBounds_toArray, List.set_cons_zero, List.set_cons_succ])
        go_cut [41] (fun v41 wc => ∃ (kq : Nat) (x41_14 : Bool), v41 = .bool x41_14 ∧ Aside0 (zoneinfolaw12_DesigsNamesAreSuffixes.j1 kq l0 a1 t237 t238 x41_14 = some r) ∧ Aside0 (kq ≤ kj2) ∧ Aside0 (Below w.heap.size w wc))
        case first =>
          have H := HC15.out
          clear HC15
          by_cases c17 : a1 ≥ 0
          · rw [if_pos c17] at H
            have c17b0 : decide (0 ≤ a1) = true := decide_eq_true c17
            clear c17
            (first | rw [c17b0] | (simp only [i64_w, i32_w]; rw [c17b0]) | skip)
            have H' := Aside0.mk H
            clear H
            go_wp2
            go_meet
            case rel => exact ⟨_, ((t238 != (decide (a1 < (l0.length : Int))))), (by first | rfl | (simp; done) | (simp [*]; done)), H', ⟨by have := HJ2.out; first | omega | exact Nat.le_refl _⟩, ⟨by repeat (first | (with_reducible first | exact HB.out | apply below_alloc | apply pw_below_drewN | apply below_drew1) | exact HB.out)⟩⟩
          · rw [if_neg c17] at H
            have c17b0 : decide (0 ≤ a1) = false := decide_eq_false c17
            clear c17
            (first | rw [c17b0] | (simp only [i64_w, i32_w]; rw [c17b0]) | skip)
            have H' := Aside0.mk H
            clear H
            go_wp2
            go_meet
            case rel => exact ⟨_, ((t238 != false)), (by first | rfl | (simp; done) | (simp [*]; done)), H', ⟨by have := HJ2.out; first | omega | exact Nat.le_refl _⟩, ⟨by repeat (first | (with_reducible first | exact HB.out | apply below_alloc | apply pw_below_drewN | apply below_drew1) | exact HB.out)⟩⟩
        case rest =>
          clear HC15
          try clear c1
          try clear p2
          try clear c5
          try clear c6
          try clear c6b0
          try clear c6b1
          try clear c8
          try clear c11
          try clear c13
          try clear c17
          try clear c17b0
          try clear p2
          obtain ⟨kq, x41_14, rfl, HA, HJ14, HB⟩ := hcut
          cases kq with
          | zero => exact absurd HA.out (by simp [zoneinfolaw12_DesigsNamesAreSuffixes.j1])
          | succ kj14 =>
            have H := HA.out
            clear HA
            simp only [zoneinfolaw12_DesigsNamesAreSuffixes.j1] at H
            by_cases c18 : x41_14 = true
            · subst c18
              have H1 : (none) = some r := by rw [if_pos rfl] at H; exact H
              clear H
              have H := H1
              clear H1
              exact absurd H (by simp)
            · replace c18 := Bool.eq_false_iff.mpr c18
              subst c18
              have H1 : (if t238 = true then (if (wrap64 (a1 + (t237.size : Int))) ≥ (l0.length : Int) then (none) else (if 0 ≤ (wrap64 (a1 + (t237.size : Int))) then (if (wrap64 (a1 + (t237.size : Int))) < (l0.length : Int) then (if (rd l0 (wrap64 (a1 + (t237.size : Int)))) = 0 then (if 0 ≤ a1 then (if a1 ≤ (wrap64 (a1 + (t237.size : Int))) then (if (wrap64 (a1 + (t237.size : Int))) ≤ (l0.length : Int) then (zoneinfolaw12_DesigsNamesAreSuffixes.j2 kj14 l0 a1 t237 ((strOfNums ((l0.take ((wrap64 (a1 + (t237.size : Int))) : Int).toNat).drop (a1 : Int).toNat)).toList != t237.toList)) else (none)) else (none)) else (none)) else (none)) else (none)) else (none))) else (some (t237.toList == ([] : List UInt8)))) = some r := by rw [if_neg (show ¬ (false = true) by decide)] at H; exact H
              clear H
              have H := H1
              clear H1
              by_cases c19 : t238 = true
              · subst c19
                have H1 : (if (wrap64 (a1 + (t237.size : Int))) ≥ (l0.length : Int) then (none) else (if 0 ≤ (wrap64 (a1 + (t237.size : Int))) then (if (wrap64 (a1 + (t237.size : Int))) < (l0.length : Int) then (if (rd l0 (wrap64 (a1 + (t237.size : Int)))) = 0 then (if 0 ≤ a1 then (if a1 ≤ (wrap64 (a1 + (t237.size : Int))) then (if (wrap64 (a1 + (t237.size : Int))) ≤ (l0.length : Int) then (zoneinfolaw12_DesigsNamesAreSuffixes.j2 kj14 l0 a1 t237 ((strOfNums ((l0.take ((wrap64 (a1 + (t237.size : Int))) : Int).toNat).drop (a1 : Int).toNat)).toList != t237.toList)) else (none)) else (none)) else (none)) else (none)) else (none)) else (none))) = some r := by rw [if_pos rfl] at H; exact H
                clear H
                have H := H1
                clear H1
                have HC20 := Aside0.mk H
                clear H
                go_upto_region 9 with (fail)
                go_cut [69] (fun v69 wc => ∃ (kq : Nat) (x69_19 : Bool), v69 = .bool x69_19 ∧ Aside0 (zoneinfolaw12_DesigsNamesAreSuffixes.j2 kq l0 a1 t237 x69_19 = some r) ∧ Aside0 (kq ≤ kj14) ∧ Aside0 (Below w.heap.size w wc))
                case first =>
                  have H := HC20.out
                  clear HC20
                  by_cases c21 : (wrap64 (a1 + (t237.size : Int))) ≥ (l0.length : Int)
                  · rw [if_pos c21] at H
                    exact absurd H (by simp)
                  · rw [if_neg c21] at H
                    have c21b0 : decide ((l0.length : Int) ≤ (wrap64 (a1 + (t237.size : Int)))) = false := decide_eq_false c21
                    clear c21
                    (first | rw [c21b0] | (simp only [i64_w, i32_w]; rw [c21b0]) | skip)
                    obtain ⟨ji22, hji22⟩ : ∃ j_ : Int, (wrap64 (a1 + (t237.size : Int))) = j_ := ⟨_, rfl⟩
                    replace H : (if 0 ≤ (ji22) then (if (ji22) < (l0.length : Int) then (if (rd l0 (ji22)) = 0 then (if 0 ≤ a1 then (if a1 ≤ (ji22) then (if (ji22) ≤ (l0.length : Int) then (zoneinfolaw12_DesigsNamesAreSuffixes.j2 kj14 l0 a1 t237 ((strOfNums ((l0.take ((ji22) : Int).toNat).drop (a1 : Int).toNat)).toList != t237.toList)) else (none)) else (none)) else (none)) else (none)) else (none)) else (none)) = some r := by first | (rw [hji22] at H; exact H) | (simp only [hji22] at H ⊢; exact H)
                    (try rw [hji22] at c21b0)
                    have hji22w : (IntKind.i64.wrap (a1 + (t237.size : Int))) = ji22 := (i64_w _).trans hji22
                    by_cases c23 : 0 ≤ (ji22)
                    · rw [if_pos c23] at H
                      have c23b0 : decide (0 ≤ (ji22)) = true := decide_eq_true c23
                      clear c23
                      by_cases c24 : (ji22) < (l0.length : Int)
                      · rw [if_pos c24] at H
                        have c24b0 : decide ((ji22) < (l0.length : Int)) = true := decide_eq_true c24
                        clear c24
                        by_cases c25 : (rd l0 (ji22)) = 0
                        · rw [if_pos c25] at H
                          have c25b0 : ((rd l0 (ji22)) == 0) = true := beq_iff_eq.mpr c25
                          have c25b1 : ((rd l0 (ji22)) != 0) = false := bne_eq_false_iff_eq.mpr c25
                          clear c25
                          by_cases c26 : 0 ≤ a1
                          · rw [if_pos c26] at H
                            have c26b0 := eq_true c26
                            have c26b1 : decide (0 ≤ a1) = true := decide_eq_true c26
                            clear c26
                            by_cases c27 : a1 ≤ (ji22)
                            · rw [if_pos c27] at H
                              have c27b0 := eq_true c27
                              have c27b1 : decide (a1 ≤ (ji22)) = true := decide_eq_true c27
                              clear c27
                              by_cases c28 : (ji22) ≤ (l0.length : Int)
                              · rw [if_pos c28] at H
                                have c28b0 := eq_true c28
                                have c28b1 : decide ((ji22) ≤ (l0.length : Int)) = true := decide_eq_true c28
                                clear c28
                                obtain ⟨y240, hy240⟩ : ∃ y_ : List Int, y_ = ((l0.take ((ji22) : Int).toNat).drop (a1 : Int).toNat) := ⟨_, rfl⟩
                                replace H : (zoneinfolaw12_DesigsNamesAreSuffixes.j2 kj14 l0 a1 t237 ((strOfNums y240).toList != t237.toList)) = some r := by first | (rw [hy240]; with_reducible exact H) | (have H2_ := (Option.bind_some _ _).symm.trans H; rw [hy240]; with_reducible exact H2_) | (have H2_ := (Option.bind_some _ _).symm.trans H; with_reducible exact H2_) | with_reducible exact H | (rw [hy240]; exact H) | exact H
                                have Ny240 := Aside0.mk hy240
                                clear hy240
                                have H' := Aside0.mk H
                                clear H
                                have p239 : 0 ≤ ((ji22) : Int) := of_decide_eq_true (by first | (with_reducible assumption) | assumption)
                                have q239 : (ji22) < (l0.length : Int) := of_decide_eq_true (by first | (with_reducible assumption) | assumption)
                                obtain ⟨ad239, e239, hx239_0⟩ := Kd.at_int HR0.out (ji22) p239 q239
                                cases e239
                                replace hx239_0 := (HB.out.cell (World.block_lt_of_cell? w _ hx239_0)).trans hx239_0
                                replace p239 := eq_true p239
                                replace q239 := eq_true q239
                                have q29 : ((ji22) : Int) ≤ ((l0.length : Int) : Int) := of_decide_eq_true (by first | (with_reducible assumption) | assumption)
                                obtain ⟨i029, hi029, _, hsz29, _⟩ := info_parts info5
                                have hroom29 : l0.length ≤ c0 := HC0.out
                                have hC29 : Kd.C (Kd.int .u8) _ (some ad239) l0.length l0 := HR0.out
                                have ql29 : (a1 : Int) ≤ ((ji22) : Int) := of_decide_eq_true (by first | (with_reducible assumption) | assumption)
                                have q029 : (0 : Int) ≤ (a1 : Int) := of_decide_eq_true (by first | (with_reducible assumption) | assumption)
                                have hcut29 := cut_mid (P := Try.prog) 22 5 .i64 .i64 Try.underlying22 hi029 1 hsz29 (some ad239) l0.length c0 a1 (ji22) q029 ql29 q29 hroom29
                                have hr29 := Kd.C_mid (lo := (a1 : Int).toNat) (hi := ((ji22) : Int).toNat) (c := c0) hC29 (by omega) (by omega) hroom29
                                obtain ⟨A29, hA29⟩ : ∃ A1, A1 = (if c0 = (a1 : Int).toNat then (some ad239) else ((some ad239) : Option Addr).map (·.add ((a1 : Int).toNat * 1))) := ⟨_, rfl⟩
                                obtain ⟨c29, hc29⟩ : ∃ c1, c1 = c0 - (a1 : Int).toNat := ⟨_, rfl⟩
                                have hy29 : y240.length = ((ji22) : Int).toNat - (a1 : Int).toNat := (by rw [Ny240.out, List.length_drop, List.length_take] <;> omega)
                                rw [show ((l0).take ((ji22) : Int).toNat).drop (a1 : Int).toNat = y240 from Ny240.out.symm] at hr29
                                replace hr29 : Kd.C (Kd.int .u8) _ A29 y240.length y240 := (by rw [hA29]; exact hr29)
                                rw [← hy29, ← hA29, ← hc29] at hcut29
                                have HR243 := Aside0.mk hr29
                                have HC243 := Aside0.mk (show y240.length ≤ c29 from by rw [hy29, hc29]; exact Nat.sub_le_sub_right (Nat.le_trans (by omega) hroom29) _)
                                clear hr29 hC29 hroom29 hi029 hsz29 hc29
                                have KY29 := Aside0.mk hy29
                                have KA29 := Aside0.mk hA29
                                clear hy29 hA29
                                replace q29 := eq_true q29
                                have hcv30 := Kd.C_string (P := Try.prog) (A := A29) (c := c29) Try.underlying22 Try.underlying5 Try.underlying9 (Kd.C_below HR243.out HB.out)
                                go_wp2
                                go_meet
                                case rel => exact ⟨_, (((strOfNums y240).toList != t237.toList)), (by first | rfl | (simp; done) | (simp [*]; done)), H', ⟨by have := HJ2.out; have := HJ14.out; first | omega | exact Nat.le_refl _⟩, ⟨by repeat (first | (with_reducible first | exact HB.out | apply below_alloc | apply pw_below_drewN | apply below_drew1) | exact HB.out)⟩⟩
                              · rw [if_neg c28] at H
                                exact absurd H (by simp)
                            · rw [if_neg c27] at H
                              exact absurd H (by simp)
                          · rw [if_neg c26] at H
                            exact absurd H (by simp)
                        · rw [if_neg c25] at H
                          exact absurd H (by simp)
                      · rw [if_neg c24] at H
                        exact absurd H (by simp)
                    · rw [if_neg c23] at H
                      exact absurd H (by simp)
                case rest =>
                  clear HC20
                  try clear c1
                  try clear c2
                  try clear p2
                  try clear q2
                  try clear hx2
                  try clear hcv3
                  try clear c5
                  try clear c6
                  try clear c6b0
                  try clear c6b1
                  try clear p6
                  try clear c8
                  try clear c11
                  try clear c13
                  try clear c17
                  try clear c17b0
                  try clear c18
                  try clear c19
                  try clear c21
                  try clear c21b0
                  try clear c23
                  try clear c23b0
                  try clear p23
                  try clear q23
                  try clear hx23
                  try clear c24
                  try clear c24b0
                  try clear c25
                  try clear c25b0
                  try clear c25b1
                  try clear c26
                  try clear c26b0
                  try clear c26b1
                  try clear c27
                  try clear c27b0
                  try clear c27b1
                  try clear c28
                  try clear c28b0
                  try clear c28b1
                  try clear c29
                  try clear q29
                  try clear hcv30
                  try clear hx239_0
                  try clear p2
                  try clear p239
                  try clear q029
                  try clear q239
                  try clear q29
                  obtain ⟨kq, x69_19, rfl, HA, HJ19, HB⟩ := hcut
                  cases kq with
                  | zero => exact absurd HA.out (by simp [zoneinfolaw12_DesigsNamesAreSuffixes.j2])
                  | succ kj19 =>
                    have H := HA.out
                    clear HA
                    simp only [zoneinfolaw12_DesigsNamesAreSuffixes.j2] at H
                    by_cases c31 : x69_19 = true
                    · subst c31
                      have H1 : (none) = some r := by rw [if_pos rfl] at H; exact H
                      clear H
                      have H := H1
                      clear H1
                      exact absurd H (by simp)
                    · replace c31 := Bool.eq_false_iff.mpr c31
                      subst c31
                      have H1 : (zoneinfolaw12_DesigsNamesAreSuffixes.l0 kj19 l0 a1 t237 0) = some r := by rw [if_neg (show ¬ (false = true) by decide)] at H; exact H
                      clear H
                      have H := H1
                      clear H1
                      have H' := Aside0.mk H
                      clear H
                      go_wp2
                      go_loopg [8] kj19 (fun kq v8 w' => ∃ (x8_4 : Int), v8 = .int .i64 x8_4 ∧ Aside0 (zoneinfolaw12_DesigsNamesAreSuffixes.l0 kq l0 a1 t237 x8_4 = some r) ∧ Aside0 (kq ≤ kj19) ∧ Aside0 (Below w.heap.size w w'))
                      case atStart => exact ⟨(0), (by first | rfl | (simp; done) | (simp [*]; done)), H', ⟨Nat.le_refl _⟩, ⟨by repeat (first | (with_reducible first | exact HB.out | apply below_alloc | apply pw_below_drewN | apply below_drew1) | exact HB.out)⟩⟩
                      case round =>
                        clear H'
                        try clear c1
                        try clear c2
                        try clear p2
                        try clear q2
                        try clear hx2
                        try clear c3
                        try clear hcv3
                        try clear c5
                        try clear c6
                        try clear c6b0
                        try clear c6b1
                        try clear p6
                        try clear c8
                        try clear c11
                        try clear c13
                        try clear c17
                        try clear c17b0
                        try clear c18
                        try clear c19
                        try clear c21
                        try clear c21b0
                        try clear c23
                        try clear c23b0
                        try clear p23
                        try clear q23
                        try clear hx23
                        try clear c24
                        try clear c24b0
                        try clear c25
                        try clear c25b0
                        try clear c25b1
                        try clear c26
                        try clear c26b0
                        try clear c26b1
                        try clear c27
                        try clear c27b0
                        try clear c27b1
                        try clear c28
                        try clear c28b0
                        try clear c28b1
                        try clear c29
                        try clear q29
                        try clear hcv30
                        try clear c31
                        try clear hx239_0
                        try clear p2
                        try clear p23
                        try clear p239
                        try clear p6
                        try clear q029
                        try clear q2
                        try clear q23
                        try clear q239
                        try clear q29
                        obtain ⟨x8_4, rfl, HA, HK4, HB⟩ := hrel
                        cases gk with
                        | zero => exact absurd HA.out (by simp [zoneinfolaw12_DesigsNamesAreSuffixes.l0])
                        | succ k4 =>
                          have H := HA.out
                          clear HA
                          simp only [zoneinfolaw12_DesigsNamesAreSuffixes.l0] at H
                          by_cases c32 : x8_4 < (t237.size : Int)
                          · rw [if_pos c32] at H
                            have c32b0 : decide (x8_4 < (t237.size : Int)) = true := decide_eq_true c32
                            clear c32
                            by_cases c33 : 0 ≤ x8_4
                            · rw [if_pos c33] at H
                              have c33b0 : decide (0 ≤ x8_4) = true := decide_eq_true c33
                              clear c33
                              by_cases c35 : (bt t237 x8_4) = 0
                              · rw [if_pos c35] at H
                                exact absurd H (by simp)
                              · rw [if_neg c35] at H
                                have c35b0 : ((bt t237 x8_4) == 0) = false := beq_eq_false_iff_ne.mpr c35
                                have c35b1 : ((bt t237 x8_4) != 0) = true := bne_iff_ne.mpr c35
                                have H' := Aside0.mk H
                                clear H
                                have p34 : 0 ≤ (x8_4 : Int) := of_decide_eq_true (by first | (with_reducible assumption) | assumption)
                                have q34 : x8_4 < (t237.size : Int) := of_decide_eq_true (by first | (with_reducible assumption) | assumption)
                                have hx34 := bt_at t237 x8_4
                                replace p34 := eq_true p34
                                replace q34 := eq_true q34
                                go_wp2
                                go_roundg k4
                                case measure => have := HJ2.out; have := HJ14.out; have := HJ19.out; have := HK4.out; omega
                                case rel => exact ⟨(wrap64 (x8_4 + 1)), (by first | rfl | (simp; done) | (simp [*]; done)), H', ⟨by have := HJ2.out; have := HJ14.out; have := HJ19.out; have := HK4.out; omega⟩, ⟨by repeat (first | (with_reducible first | exact HB.out | apply below_alloc | apply pw_below_drewN | apply below_drew1) | exact HB.out)⟩⟩
                            · rw [if_neg c33] at H
                              exact absurd H (by simp)
                          · rw [if_neg c32] at H
                            have c32b0 : decide (x8_4 < (t237.size : Int)) = false := decide_eq_false c32
                            clear c32
                            replace H := Option.bind_eq_some_iff.mp H
                            obtain ⟨⟨t244, t245⟩, A360, H⟩ := H
                            replace H : (if t245 = true then (if t244.toList = ([] : List UInt8) then (if (t237.size : Int) = 0 then (some (t244.toList == ([] : List UInt8))) else ((desigs_Name.f l0 (wrap64 (a1 + 1))).bind fun bt246 => (if bt246.2 = true then (if 1 ≤ (t237.size : Int) then (some (bt246.1.toList == (t237.extract 1 t237.size).toList)) else (none)) else (none)))) else (some (t244.toList == ([] : List UInt8)))) else (none)) = some r := H
                            have A36 := Aside0.mk A360
                            clear A360
                            by_cases c37 : t245 = true
                            · subst c37
                              have H1 : (if t244.toList = ([] : List UInt8) then (if (t237.size : Int) = 0 then (some (t244.toList == ([] : List UInt8))) else ((desigs_Name.f l0 (wrap64 (a1 + 1))).bind fun bt246 => (if bt246.2 = true then (if 1 ≤ (t237.size : Int) then (some (bt246.1.toList == (t237.extract 1 t237.size).toList)) else (none)) else (none)))) else (some (t244.toList == ([] : List UInt8)))) = some r := by rw [if_pos rfl] at H; exact H
                              clear H
                              have H := H1
                              clear H1
                              by_cases c38 : t244.toList = ([] : List UInt8)
                              · rw [if_pos c38] at H
                                have c38b0 : (t244.toList == ([] : List UInt8)) = true := beq_iff_eq.mpr c38
                                have c38b1 : (t244.toList != ([] : List UInt8)) = false := bne_eq_false_iff_eq.mpr c38
                                clear c38
                                by_cases c39 : (t237.size : Int) = 0
                                · rw [if_pos c39] at H
                                  have c39b0 : ((t237.size : Int) == 0) = true := beq_iff_eq.mpr c39
                                  have c39b1 : ((t237.size : Int) != 0) = false := bne_eq_false_iff_eq.mpr c39
                                  clear c39
                                  obtain rfl := Option.some.inj H
                                  go_wp2_with (first | ((with_reducible refine gate_callee (f := 13) rfl ?_); refine goesL_ (some 85) rfl rfl Try.func13 (by kernel_rfl) rfl #[.slice A0 l0.length c0, .int .i64 (wrap64 ((l0.length : Int) - 1))] rfl (by (try simp only [List.map_toArray, List.map_cons, List.map_nil]); first | done | rfl | (simp only [List.length_drop, List.length_take]; rfl)) ?_; (with_reducible refine (desigs_Name.calls _ _ l0 (wrap64 ((l0.length : Int) - 1)) t244 true _ ?side1 ?side2 A36.out).mono ?_); (case side1 => repeat (first | exact (Kd.C_below HR0.out HB.out) | (with_reducible refine Kd.C_alloc ?_ _) | (with_reducible refine Kd.C_drewN ?_ _) | (with_reducible refine Kd.C_drew ?_))); (case side2 => exact HC0.out); rintro e w40 ⟨rfl, hb⟩; refine ⟨_, rfl, ?_⟩; have n0_ := Aside0.mk (below_step (by repeat (first | (with_reducible first | exact HB.out | apply below_alloc | apply pw_below_drewN | apply below_drew1) | exact HB.out)) hb); clear HB; have HB := n0_; clear n0_; (try clear hb); (try clear hb2); (try clear hk); (try clear hi)))
                                  go_ret
                                  exact ⟨by first | rfl | (simp [errW_none, errW_some] <;> rfl) | (simp [*, errW_none, errW_some] <;> rfl), by repeat (first | (with_reducible first | exact HB.out | apply below_alloc | apply pw_below_drewN | apply below_drew1) | exact HB.out)⟩
                                · rw [if_neg c39] at H
                                  have c39b0 : ((t237.size : Int) == 0) = false := beq_eq_false_iff_ne.mpr c39
                                  have c39b1 : ((t237.size : Int) != 0) = true := bne_iff_ne.mpr c39
                                  replace H := Option.bind_eq_some_iff.mp H
                                  obtain ⟨⟨t246, t247⟩, A410, H⟩ := H
                                  replace H : (if t247 = true then (if 1 ≤ (t237.size : Int) then (some (t246.toList == (t237.extract 1 t237.size).toList)) else (none)) else (none)) = some r := H
                                  have A41 := Aside0.mk A410
                                  clear A410
                                  by_cases c42 : t247 = true
                                  · subst c42
                                    have H1 : (if 1 ≤ (t237.size : Int) then (some (t246.toList == (t237.extract 1 t237.size).toList)) else (none)) = some r := by rw [if_pos rfl] at H; exact H
                                    clear H
                                    have H := H1
                                    clear H1
                                    by_cases c43 : 1 ≤ (t237.size : Int)
                                    · rw [if_pos c43] at H
                                      have c43b0 := eq_true c43
                                      have c43b1 : decide (1 ≤ (t237.size : Int)) = true := decide_eq_true c43
                                      clear c43
                                      obtain rfl := Option.some.inj H
                                      go_wp2_with (first | ((with_reducible refine gate_callee (f := 13) rfl ?_); refine goesL_ (some 85) rfl rfl Try.func13 (by kernel_rfl) rfl #[.slice A0 l0.length c0, .int .i64 (wrap64 ((l0.length : Int) - 1))] rfl (by (try simp only [List.map_toArray, List.map_cons, List.map_nil]); first | done | rfl | (simp only [List.length_drop, List.length_take]; rfl)) ?_; (with_reducible refine (desigs_Name.calls _ _ l0 (wrap64 ((l0.length : Int) - 1)) t244 true _ ?side1 ?side2 A36.out).mono ?_); (case side1 => repeat (first | exact (Kd.C_below HR0.out HB.out) | (with_reducible refine Kd.C_alloc ?_ _) | (with_reducible refine Kd.C_drewN ?_ _) | (with_reducible refine Kd.C_drew ?_))); (case side2 => exact HC0.out); rintro e w44 ⟨rfl, hb⟩; refine ⟨_, rfl, ?_⟩; have n0_ := Aside0.mk (below_step (by repeat (first | (with_reducible first | exact HB.out | apply below_alloc | apply pw_below_drewN | apply below_drew1) | exact HB.out)) hb); clear HB; have HB := n0_; clear n0_; (try clear hb); (try clear hb2); (try clear hk); (try clear hi)) | ((with_reducible refine gate_callee (f := 13) rfl ?_); refine goesL_ (some 108) rfl rfl Try.func13 (by kernel_rfl) rfl #[.slice A0 l0.length c0, .int .i64 (wrap64 (a1 + 1))] rfl (by (try simp only [List.map_toArray, List.map_cons, List.map_nil]); first | done | rfl | (simp only [List.length_drop, List.length_take]; rfl)) ?_; (with_reducible refine (desigs_Name.calls _ _ l0 (wrap64 (a1 + 1)) t246 true _ ?side1 ?side2 A41.out).mono ?_); (case side1 => repeat (first | exact (Kd.C_below HR0.out HB.out) | (with_reducible refine Kd.C_alloc ?_ _) | (with_reducible refine Kd.C_drewN ?_ _) | (with_reducible refine Kd.C_drew ?_))); (case side2 => exact HC0.out); rintro e w45 ⟨rfl, hb⟩; refine ⟨_, rfl, ?_⟩; have n0_ := Aside0.mk (below_step (by repeat (first | (with_reducible first | exact HB.out | apply below_alloc | apply pw_below_drewN | apply below_drew1) | exact HB.out)) hb); clear HB; have HB := n0_; clear n0_; (try clear hb); (try clear hb2); (try clear hk); (try clear hi)))
                                      go_ret
                                      exact ⟨by first | rfl | (simp [errW_none, errW_some] <;> rfl) | (simp [*, errW_none, errW_some] <;> rfl), by repeat (first | (with_reducible first | exact HB.out | apply below_alloc | apply pw_below_drewN | apply below_drew1) | exact HB.out)⟩
                                    · rw [if_neg c43] at H
                                      exact absurd H (by simp)
                                  · replace c42 := Bool.eq_false_iff.mpr c42
                                    subst c42
                                    have H1 : (none) = some r := by rw [if_neg (show ¬ (false = true) by decide)] at H; exact H
                                    clear H
                                    have H := H1
                                    clear H1
                                    exact absurd H (by simp)
                              · rw [if_neg c38] at H
                                have c38b0 : (t244.toList == ([] : List UInt8)) = false := beq_eq_false_iff_ne.mpr c38
                                have c38b1 : (t244.toList != ([] : List UInt8)) = true := bne_iff_ne.mpr c38
                                obtain rfl := Option.some.inj H
                                go_wp2_with (first | ((with_reducible refine gate_callee (f := 13) rfl ?_); refine goesL_ (some 85) rfl rfl Try.func13 (by kernel_rfl) rfl #[.slice A0 l0.length c0, .int .i64 (wrap64 ((l0.length : Int) - 1))] rfl (by (try simp only [List.map_toArray, List.map_cons, List.map_nil]); first | done | rfl | (simp only [List.length_drop, List.length_take]; rfl)) ?_; (with_reducible refine (desigs_Name.calls _ _ l0 (wrap64 ((l0.length : Int) - 1)) t244 true _ ?side1 ?side2 A36.out).mono ?_); (case side1 => repeat (first | exact (Kd.C_below HR0.out HB.out) | (with_reducible refine Kd.C_alloc ?_ _) | (with_reducible refine Kd.C_drewN ?_ _) | (with_reducible refine Kd.C_drew ?_))); (case side2 => exact HC0.out); rintro e w46 ⟨rfl, hb⟩; refine ⟨_, rfl, ?_⟩; have n0_ := Aside0.mk (below_step (by repeat (first | (with_reducible first | exact HB.out | apply below_alloc | apply pw_below_drewN | apply below_drew1) | exact HB.out)) hb); clear HB; have HB := n0_; clear n0_; (try clear hb); (try clear hb2); (try clear hk); (try clear hi)))
                                go_ret
                                exact ⟨by first | rfl | (simp [errW_none, errW_some] <;> rfl) | (simp [*, errW_none, errW_some] <;> rfl), by repeat (first | (with_reducible first | exact HB.out | apply below_alloc | apply pw_below_drewN | apply below_drew1) | exact HB.out)⟩
                            · replace c37 := Bool.eq_false_iff.mpr c37
                              subst c37
                              have H1 : (none) = some r := by rw [if_neg (show ¬ (false = true) by decide)] at H; exact H
                              clear H
                              have H := H1
                              clear H1
                              exact absurd H (by simp)
              · replace c19 := Bool.eq_false_iff.mpr c19
                subst c19
                have H1 : (some (t237.toList == ([] : List UInt8))) = some r := by rw [if_neg (show ¬ (false = true) by decide)] at H; exact H
                clear H
                have H := H1
                clear H1
                obtain rfl := Option.some.inj H
                go_wp2
                go_ret
                exact ⟨by first | rfl | (simp [errW_none, errW_some] <;> rfl) | (simp [*, errW_none, errW_some] <;> rfl), by repeat (first | (with_reducible first | exact HB.out | apply below_alloc | apply pw_below_drewN | apply below_drew1) | exact HB.out)⟩

/-- THE ONE PURE STATEMENT of zoneinfolaw12_DesigsNamesAreSuffixes: yours. -/
def zoneinfolaw12_DesigsNamesAreSuffixes.Pure : Prop := ∀ (l0 : List Int) (a1 : Int), l0.length ≤ maxLen → l0.length * 1 ≤ 140737488351232 → (∀ x ∈ l0, (Lit.int .u8 x).wf = true) → (Lit.int .i64 a1).wf = true → ∃ k, zoneinfolaw12_DesigsNamesAreSuffixes.f k l0 a1 = some true
theorem zoneinfolaw12_DesigsNamesAreSuffixes.walk (P : zoneinfolaw12_DesigsNamesAreSuffixes.Pure) (a0 : Option Addr) (len0 cap0 : Nat) (z0 : List Int) (a1 : Int) (w : World) (w0 : (a0 = none ∧ len0 = 0 ∧ cap0 = 0 ∧ z0 = []) ∨ ∃ x, a0 = some x ∧ len0 ≤ cap0 ∧ cap0 ≤ maxLen ∧ z0.length = cap0 ∧ (∀ i, i < z0.length → w.cell? (x.add i) = some (.int .u8 (z0.getD i 0))) ∧ ∀ n ∈ z0, (Lit.int .u8 n).wf = true) (y0 : len0 * 1 ≤ 140737488351232) (w1 : (Lit.int .i64 a1).wf = true) :
    Calls Try.prog 5 #[.slice a0 len0 cap0, .int .i64 a1] w fun e w' => e = .returned (.bool true) ∧ Below w.heap.size w w' := by
  obtain ⟨l0, rfl, hr0, hm0, hw0, hc0⟩ := ReadsInt.ofRowC w0
  obtain ⟨k, h⟩ := P l0 a1 hm0 y0 hw0 w1
  refine (zoneinfolaw12_DesigsNamesAreSuffixes.calls k _ _ l0 a1 true w (Kd.C_of_reads (d := (0 : Int)) (h1 := fun _ => rfl) hr0) hc0 h).mono ?_
  rintro e w' ⟨rfl, hd⟩
  exact ⟨rfl, hd⟩

end Go.Proofs.Ytchlggnbgabddaa.G
