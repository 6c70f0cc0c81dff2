/- Written by a program of this session for this seat: contracts of the functions that its laws reach, or the row of a law over its plain part. -/
import Derived.Test.YtiaobffdggeofaaDoorGx0
import Derived.Test.YtiaobffdggeofaaDoorGx4
import Derived.Test.YtiaobffdggeofaaDoorGx5
import Derived.Test.YtiaobffdggeofaaDoorGx7
namespace Go.Proofs.YtiaobffdggeofaaDoor.G
open Go.RowKit Go.Proofs.YtiaobffdggeofaaDoorW.PrintWords Go.Proofs.YtiaobffdggeofaaDoorW.PrintLast Go.Proofs.YtiaobffdggeofaaDoorW.PrintMore
attribute [local go_sem] max2_int min2_int max_two min_two max_three min_three max_four min_four   -- for this text's walks alone
set_option linter.unusedVariables false
set_option linter.unusedSimpArgs false

/-! ### zoneinfolaw17_LeapsCorrectionIsStep: function 6 -/
mutual
def zoneinfolaw17_LeapsCorrectionIsStep.j0 : Nat → List (S38) → Int → Bool → Option (Bool)
  | 0, _, _, _ => none
  | k + 1, x0, x1, x22 => if x22 = true then ((zoneinfolaw17_awake.f k).bind fun t323 => (some t323)) else (zoneinfolaw17_LeapsCorrectionIsStep.l0 k x0 x1 0)
def zoneinfolaw17_LeapsCorrectionIsStep.l0 : Nat → List (S38) → Int → Int → Option (Bool)
  | 0, _, _, _ => none
  | k + 1, x0, x1, x5 => if x5 < (x0.length : Int) then (if 0 ≤ x5 then ((leaps_Correction.f k x0 ((rd_T38 x0 x5).f0)).bind fun t325 => (if t325 = (wrap64 ((rd_T38 x0 x5).f1)) then (if x5 > 0 then (if 0 ≤ (wrap64 (x5 - 1)) then (if (wrap64 (x5 - 1)) < (x0.length : Int) then ((leaps_Correction.f k x0 (wrap64 (((rd_T38 x0 x5).f0) - 1))).bind fun t329 => (if t329 = (wrap64 ((rd_T38 x0 (wrap64 (x5 - 1))).f1)) then (zoneinfolaw17_LeapsCorrectionIsStep.l0 k x0 x1 (wrap64 (x5 + 1))) else (none))) else (none)) else (none)) else ((leaps_Correction.f k x0 (wrap64 (((rd_T38 x0 x5).f0) - 1))).bind fun t331 => (if t331 = 0 then (zoneinfolaw17_LeapsCorrectionIsStep.l0 k x0 x1 (wrap64 (x5 + 1))) else (none)))) else (none))) else (none)) else ((leaps_Expiry.f x0).bind fun bt332 => (if bt332.2 = true then (if (x0.length : Int) < 2 then (zoneinfolaw17_LeapsCorrectionIsStep.j2 k x0 x1 true) else (if 0 ≤ (wrap64 ((x0.length : Int) - 1)) then (if (wrap64 ((x0.length : Int) - 1)) < (x0.length : Int) then (if bt332.1 = ((rd_T38 x0 (wrap64 ((x0.length : Int) - 1))).f0) then ((leaps_Correction.f k x0 bt332.1).bind fun t335 => ((leaps_Correction.f k x0 (wrap64 (bt332.1 - 1))).bind fun t336 => (zoneinfolaw17_LeapsCorrectionIsStep.j2 k x0 x1 (t335 != t336)))) else (zoneinfolaw17_LeapsCorrectionIsStep.j2 k x0 x1 true)) else (none)) else (none))) else (zoneinfolaw17_LeapsCorrectionIsStep.j2 k x0 x1 false)))
def zoneinfolaw17_LeapsCorrectionIsStep.j2 : Nat → List (S38) → Int → Bool → Option (Bool)
  | 0, _, _, _ => none
  | k + 1, x0, x1, x94 => if x94 = true then (none) else (zoneinfolaw17_LeapsCorrectionIsStep.l1 k x0 x1 false 0)
def zoneinfolaw17_LeapsCorrectionIsStep.l1 : Nat → List (S38) → Int → Bool → Int → Option (Bool)
  | 0, _, _, _, _ => none
  | k + 1, x0, x1, x9, x10 => if x10 < (x0.length : Int) then (if x9 = true then (zoneinfolaw17_LeapsCorrectionIsStep.l1 k x0 x1 true (wrap64 (x10 + 1))) else (if 0 ≤ x10 then (zoneinfolaw17_LeapsCorrectionIsStep.l1 k x0 x1 (((rd_T38 x0 x10).f0) == x1) (wrap64 (x10 + 1))) else (none))) else (if x9 = true then (some true) else (if x1 = (-9223372036854775808) then (some true) else ((leaps_Correction.f k x0 x1).bind fun t338 => ((leaps_Correction.f k x0 (wrap64 (x1 - 1))).bind fun t339 => (some (t338 == t339))))))
end
def zoneinfolaw17_LeapsCorrectionIsStep.f (k : Nat) (l0 : List (S38)) (a1 : Int) : Option (Bool) := (zoneinfolaw17_awake.f k).bind fun t321 => (if t321 = true then (if (l0.length : Int) > 100 then (zoneinfolaw17_LeapsCorrectionIsStep.j0 k l0 a1 true) else ((zoneinforef17_Valid.f k l0 4).bind fun t322 => (zoneinfolaw17_LeapsCorrectionIsStep.j0 k l0 a1 (!t322)))) else (zoneinfolaw17_LeapsCorrectionIsStep.j0 k l0 a1 true))
theorem zoneinfolaw17_LeapsCorrectionIsStep.mono_l : ∀ k, (∀ y0 y1 y2, LeO (zoneinfolaw17_LeapsCorrectionIsStep.j0 k y0 y1 y2) (zoneinfolaw17_LeapsCorrectionIsStep.j0 (k + 1) y0 y1 y2)) ∧ (∀ y0 y1 y2, LeO (zoneinfolaw17_LeapsCorrectionIsStep.l0 k y0 y1 y2) (zoneinfolaw17_LeapsCorrectionIsStep.l0 (k + 1) y0 y1 y2)) ∧ (∀ y0 y1 y2, LeO (zoneinfolaw17_LeapsCorrectionIsStep.j2 k y0 y1 y2) (zoneinfolaw17_LeapsCorrectionIsStep.j2 (k + 1) y0 y1 y2)) ∧ (∀ y0 y1 y2 y3, LeO (zoneinfolaw17_LeapsCorrectionIsStep.l1 k y0 y1 y2 y3) (zoneinfolaw17_LeapsCorrectionIsStep.l1 (k + 1) y0 y1 y2 y3))
  | 0 => ⟨fun _ _ _ r h => by simp [zoneinfolaw17_LeapsCorrectionIsStep.j0] at h, fun _ _ _ r h => by simp [zoneinfolaw17_LeapsCorrectionIsStep.l0] at h, fun _ _ _ r h => by simp [zoneinfolaw17_LeapsCorrectionIsStep.j2] at h, fun _ _ _ _ r h => by simp [zoneinfolaw17_LeapsCorrectionIsStep.l1] at h⟩
  | k + 1 => by
    obtain ⟨ih0, ih1, ih2, ih3⟩ := zoneinfolaw17_LeapsCorrectionIsStep.mono_l k
    refine ⟨?_, ?_, ?_, ?_⟩
    · intro y0 y1 y2
      unfold zoneinfolaw17_LeapsCorrectionIsStep.j0
      repeat' first
      | (with_reducible exact ih0 _ _ _)
      | (with_reducible exact ih1 _ _ _)
      | (with_reducible exact ih2 _ _ _)
      | (with_reducible exact ih3 _ _ _ _)
      | (with_reducible exact leaps_Correction.mono _ _ _)
      | (with_reducible exact zoneinfolaw17_awake.mono _)
      | (with_reducible exact zoneinforef17_Valid.mono _ _ _)
      | (with_reducible exact LeO.refl _)
      | (with_reducible exact LeO.none _)
      | (with_reducible refine LeO.ite ?_ ?_)
      | (with_reducible refine LeO.bind ?_ (fun _ => ?_))
      | exact ih0 _ _ _
      | exact ih1 _ _ _
      | exact ih2 _ _ _
      | exact ih3 _ _ _ _
      | exact leaps_Correction.mono _ _ _
      | exact zoneinfolaw17_awake.mono _
      | exact zoneinforef17_Valid.mono _ _ _
      | exact LeO.none _
      | refine LeO.ite ?_ ?_
      | refine LeO.bind ?_ (fun _ => ?_)
    · intro y0 y1 y2
      unfold zoneinfolaw17_LeapsCorrectionIsStep.l0
      repeat' first
      | (with_reducible exact ih0 _ _ _)
      | (with_reducible exact ih1 _ _ _)
      | (with_reducible exact ih2 _ _ _)
      | (with_reducible exact ih3 _ _ _ _)
      | (with_reducible exact leaps_Correction.mono _ _ _)
      | (with_reducible exact zoneinfolaw17_awake.mono _)
      | (with_reducible exact zoneinforef17_Valid.mono _ _ _)
      | (with_reducible exact LeO.refl _)
      | (with_reducible exact LeO.none _)
      | (with_reducible refine LeO.ite ?_ ?_)
      | (with_reducible refine LeO.bind ?_ (fun _ => ?_))
      | exact ih0 _ _ _
      | exact ih1 _ _ _
      | exact ih2 _ _ _
      | exact ih3 _ _ _ _
      | exact leaps_Correction.mono _ _ _
      | exact zoneinfolaw17_awake.mono _
      | exact zoneinforef17_Valid.mono _ _ _
      | exact LeO.none _
      | refine LeO.ite ?_ ?_
      | refine LeO.bind ?_ (fun _ => ?_)
    · intro y0 y1 y2
      unfold zoneinfolaw17_LeapsCorrectionIsStep.j2
      repeat' first
      | (with_reducible exact ih0 _ _ _)
      | (with_reducible exact ih1 _ _ _)
      | (with_reducible exact ih2 _ _ _)
      | (with_reducible exact ih3 _ _ _ _)
      | (with_reducible exact leaps_Correction.mono _ _ _)
      | (with_reducible exact zoneinfolaw17_awake.mono _)
      | (with_reducible exact zoneinforef17_Valid.mono _ _ _)
      | (with_reducible exact LeO.refl _)
      | (with_reducible exact LeO.none _)
      | (with_reducible refine LeO.ite ?_ ?_)
      | (with_reducible refine LeO.bind ?_ (fun _ => ?_))
      | exact ih0 _ _ _
      | exact ih1 _ _ _
      | exact ih2 _ _ _
      | exact ih3 _ _ _ _
      | exact leaps_Correction.mono _ _ _
      | exact zoneinfolaw17_awake.mono _
      | exact zoneinforef17_Valid.mono _ _ _
      | exact LeO.none _
      | refine LeO.ite ?_ ?_
      | refine LeO.bind ?_ (fun _ => ?_)
    · intro y0 y1 y2 y3
      unfold zoneinfolaw17_LeapsCorrectionIsStep.l1
      repeat' first
      | (with_reducible exact ih0 _ _ _)
      | (with_reducible exact ih1 _ _ _)
      | (with_reducible exact ih2 _ _ _)
      | (with_reducible exact ih3 _ _ _ _)
      | (with_reducible exact leaps_Correction.mono _ _ _)
      | (with_reducible exact zoneinfolaw17_awake.mono _)
      | (with_reducible exact zoneinforef17_Valid.mono _ _ _)
      | (with_reducible exact LeO.refl _)
      | (with_reducible exact LeO.none _)
      | (with_reducible refine LeO.ite ?_ ?_)
      | (with_reducible refine LeO.bind ?_ (fun _ => ?_))
      | exact ih0 _ _ _
      | exact ih1 _ _ _
      | exact ih2 _ _ _
      | exact ih3 _ _ _ _
      | exact leaps_Correction.mono _ _ _
      | exact zoneinfolaw17_awake.mono _
      | exact zoneinforef17_Valid.mono _ _ _
      | exact LeO.none _
      | refine LeO.ite ?_ ?_
      | refine LeO.bind ?_ (fun _ => ?_)
theorem zoneinfolaw17_LeapsCorrectionIsStep.mono : ∀ a0 a1 k, LeO (zoneinfolaw17_LeapsCorrectionIsStep.f k a0 a1) (zoneinfolaw17_LeapsCorrectionIsStep.f (k + 1) a0 a1) := by
  intro a0 a1 k
  obtain ⟨ih0, ih1, ih2, ih3⟩ := zoneinfolaw17_LeapsCorrectionIsStep.mono_l k
  unfold zoneinfolaw17_LeapsCorrectionIsStep.f
  repeat' first
      | (with_reducible exact ih0 _ _ _)
      | (with_reducible exact ih1 _ _ _)
      | (with_reducible exact ih2 _ _ _)
      | (with_reducible exact ih3 _ _ _ _)
      | (with_reducible exact leaps_Correction.mono _ _ _)
      | (with_reducible exact zoneinfolaw17_awake.mono _)
      | (with_reducible exact zoneinforef17_Valid.mono _ _ _)
      | (with_reducible exact LeO.refl _)
      | (with_reducible exact LeO.none _)
      | (with_reducible refine LeO.ite ?_ ?_)
      | (with_reducible refine LeO.bind ?_ (fun _ => ?_))
      | exact ih0 _ _ _
      | exact ih1 _ _ _
      | exact ih2 _ _ _
      | exact ih3 _ _ _ _
      | exact leaps_Correction.mono _ _ _
      | exact zoneinfolaw17_awake.mono _
      | exact zoneinforef17_Valid.mono _ _ _
      | exact LeO.none _
      | refine LeO.ite ?_ ?_
      | refine LeO.bind ?_ (fun _ => ?_)
def zoneinfolaw17_LeapsCorrectionIsStep.T6 : Bool × List (List Nat × List Nat) := (true, [([], []), ([], []), ([], []), ([1, 2], [1, 2]), ([3], [3]), ([4], [4]), ([0, 5], [0, 5]), ([], []), ([], []), ([7, 8], [7, 8]), ([9], [9]), ([10], [10]), ([11], [11]), ([6, 12], [6, 12])])
def zoneinfolaw17_LeapsCorrectionIsStep.B6 : List Nat := [0, 0, 0, 6, 14, 30, 63, 0, 0, 384, 896, 1920, 3968, 8191]
theorem zoneinfolaw17_LeapsCorrectionIsStep.tab6 : rtab .any (opsOf Tryd.f6 6) = zoneinfolaw17_LeapsCorrectionIsStep.T6 := by kernel_rfl
theorem zoneinfolaw17_LeapsCorrectionIsStep.bits6 : waitsOk zoneinfolaw17_LeapsCorrectionIsStep.T6.2 zoneinfolaw17_LeapsCorrectionIsStep.B6 = true := by kernel_rfl
set_option maxHeartbeats 8000000 in
set_option maxRecDepth 100000 in
theorem zoneinfolaw17_LeapsCorrectionIsStep.calls (k : Nat) (A0 : Option Addr) (c0 : Nat) (l0 : List (S38)) (a1 : Int) (r : Bool) (w : World) (hr0 : Kd.C k38 w A0 l0.length l0) (hc0 : l0.length ≤ c0) (hrg : GL w) (h : zoneinfolaw17_LeapsCorrectionIsStep.f k l0 a1 = some r) :
    Calls Tryd.prog 6 #[.slice A0 l0.length c0, .int .i64 a1] w fun e w' => e = .returned (.bool r) ∧ Below w.heap.size w w' := by
  have HRg := Aside0.mk hrg
  clear hrg
  have HR0 := Aside0.mk hr0
  have HC0 := Aside0.mk hc0
  clear hr0 hc0
  have HB := Aside0.mk (Below.refl w.heap.size w)
  have H : ((zoneinfolaw17_awake.f k).bind fun t321 => (if t321 = true then (if (l0.length : Int) > 100 then (zoneinfolaw17_LeapsCorrectionIsStep.j0 k l0 a1 true) else ((zoneinforef17_Valid.f k l0 4).bind fun t322 => (zoneinfolaw17_LeapsCorrectionIsStep.j0 k l0 a1 (!t322)))) else (zoneinfolaw17_LeapsCorrectionIsStep.j0 k l0 a1 true))) = some r := h
  clear h
  have HC3 := Aside0.mk H
  clear H
  go_enter Tryd.func6, Tryd.ntmps6
  (try simp only [List.append_eq, List.cons_append, List.nil_append])
  go_upto_region 1 with (fail)
  go_cut [22] (fun v22 wc => ∃ (kq : Nat) (x22_2 : Bool), v22 = .bool x22_2 ∧ Aside0 (zoneinfolaw17_LeapsCorrectionIsStep.j0 kq l0 a1 x22_2 = some r) ∧ Aside0 (kq ≤ k) ∧ Aside0 (Below w.heap.size w wc))
  case first =>
    have H := HC3.out
    clear HC3
    replace H := Option.bind_eq_some_iff.mp H
    obtain ⟨t321, A40, H⟩ := H
    replace H : (if t321 = true then (if (l0.length : Int) > 100 then (zoneinfolaw17_LeapsCorrectionIsStep.j0 k l0 a1 true) else ((zoneinforef17_Valid.f k l0 4).bind fun t322 => (zoneinfolaw17_LeapsCorrectionIsStep.j0 k l0 a1 (!t322)))) else (zoneinfolaw17_LeapsCorrectionIsStep.j0 k l0 a1 true)) = some r := H
    have A4 := Aside0.mk A40
    clear A40
    by_cases c5 : t321 = true
    · subst c5
      have H1 : (if (l0.length : Int) > 100 then (zoneinfolaw17_LeapsCorrectionIsStep.j0 k l0 a1 true) else ((zoneinforef17_Valid.f k l0 4).bind fun t322 => (zoneinfolaw17_LeapsCorrectionIsStep.j0 k l0 a1 (!t322)))) = some r := by rw [if_pos rfl] at H; exact H
      clear H
      have H := H1
      clear H1
      by_cases c6 : (l0.length : Int) > 100
      · rw [if_pos c6] at H
        have c6b0 : decide (100 < (l0.length : Int)) = true := decide_eq_true c6
        have c6b1 : decide (100 < l0.length) = true := decide_eq_true (by omega)
        clear c6
        (first | rw [c6b0] | (simp only [i64_w, i32_w]; rw [c6b0]) | skip)
        have H' := Aside0.mk H
        clear H
        go_wp2_with (first | ((with_reducible refine gate_callee (f := 7) rfl ?_); refine goesL_ (some 11) rfl rfl Tryd.func7 (by kernel_rfl) rfl #[] rfl (by (try simp only [List.map_toArray, List.map_cons, List.map_nil]); first | done | rfl | (simp only [List.length_drop, List.length_take]; rfl)) ?_; (with_reducible refine (zoneinfolaw17_awake.calls k  true _ ?side1 A4.out).mono ?_); (case side1 => repeat (first | exact (Kd.C_below HRg.out HB.out) | (with_reducible refine Kd.C_alloc ?_ _) | (with_reducible refine Kd.C_drewN ?_ _) | (with_reducible refine Kd.C_drew ?_))); rintro e w7 ⟨rfl, hb⟩; refine ⟨_, rfl, ?_⟩; have n0_ := Aside0.mk (below_step (by repeat (first | (with_reducible first | exact HB.out | apply below_alloc | apply pw_below_drewN | apply below_drew1) | exact HB.out)) hb); clear HB; have HB := n0_; clear n0_; (try clear hb); (try clear hb2); (try clear hk); (try clear hi)))
        go_meet
        case rel => exact ⟨_, (true), (by first | rfl | (simp; done) | (simp [*]; done)), H', ⟨by first | omega | exact Nat.le_refl _⟩, ⟨by repeat (first | (with_reducible first | exact HB.out | apply below_alloc | apply pw_below_drewN | apply below_drew1) | exact HB.out)⟩⟩
      · rw [if_neg c6] at H
        have c6b0 : decide (100 < (l0.length : Int)) = false := decide_eq_false c6
        have c6b1 : decide (100 < l0.length) = false := decide_eq_false (by omega)
        clear c6
        (first | rw [c6b0] | (simp only [i64_w, i32_w]; rw [c6b0]) | skip)
        replace H := Option.bind_eq_some_iff.mp H
        obtain ⟨t322, A80, H⟩ := H
        replace H : (zoneinfolaw17_LeapsCorrectionIsStep.j0 k l0 a1 (!t322)) = some r := H
        have A8 := Aside0.mk A80
        clear A80
        have H' := Aside0.mk H
        clear H
        go_wp2_with (first | ((with_reducible refine gate_callee (f := 7) rfl ?_); refine goesL_ (some 11) rfl rfl Tryd.func7 (by kernel_rfl) rfl #[] rfl (by (try simp only [List.map_toArray, List.map_cons, List.map_nil]); first | done | rfl | (simp only [List.length_drop, List.length_take]; rfl)) ?_; (with_reducible refine (zoneinfolaw17_awake.calls k  true _ ?side1 A4.out).mono ?_); (case side1 => repeat (first | exact (Kd.C_below HRg.out HB.out) | (with_reducible refine Kd.C_alloc ?_ _) | (with_reducible refine Kd.C_drewN ?_ _) | (with_reducible refine Kd.C_drew ?_))); rintro e w9 ⟨rfl, hb⟩; refine ⟨_, rfl, ?_⟩; have n0_ := Aside0.mk (below_step (by repeat (first | (with_reducible first | exact HB.out | apply below_alloc | apply pw_below_drewN | apply below_drew1) | exact HB.out)) hb); clear HB; have HB := n0_; clear n0_; (try clear hb); (try clear hb2); (try clear hk); (try clear hi)) | (go_at_call 16; (with_reducible refine (zoneinforef17_Valid.calls k _ _ l0 4 t322 _ ?side1 ?side2 A8.out).mono ?_); (case side1 => repeat (first | exact (Kd.C_below HR0.out HB.out) | (with_reducible refine Kd.C_alloc ?_ _) | (with_reducible refine Kd.C_drewN ?_ _) | (with_reducible refine Kd.C_drew ?_))); (case side2 => exact HC0.out); rintro e w' ⟨rfl, ⟨nd, rfl⟩⟩))
        go_meet
        case rel => exact ⟨_, (!t322), (by first | rfl | (simp; done) | (simp [*]; done)), H', ⟨by first | omega | exact Nat.le_refl _⟩, ⟨by repeat (first | (with_reducible first | exact HB.out | apply below_alloc | apply pw_below_drewN | apply below_drew1) | exact HB.out)⟩⟩
    · replace c5 := Bool.eq_false_iff.mpr c5
      subst c5
      have H1 : (zoneinfolaw17_LeapsCorrectionIsStep.j0 k l0 a1 true) = some r := by rw [if_neg (show ¬ (false = true) by decide)] at H; exact H
      clear H
      have H := H1
      clear H1
      have H' := Aside0.mk H
      clear H
      go_wp2_with (first | ((with_reducible refine gate_callee (f := 7) rfl ?_); refine goesL_ (some 11) rfl rfl Tryd.func7 (by kernel_rfl) rfl #[] rfl (by (try simp only [List.map_toArray, List.map_cons, List.map_nil]); first | done | rfl | (simp only [List.length_drop, List.length_take]; rfl)) ?_; (with_reducible refine (zoneinfolaw17_awake.calls k  false _ ?side1 A4.out).mono ?_); (case side1 => repeat (first | exact (Kd.C_below HRg.out HB.out) | (with_reducible refine Kd.C_alloc ?_ _) | (with_reducible refine Kd.C_drewN ?_ _) | (with_reducible refine Kd.C_drew ?_))); rintro e w10 ⟨rfl, hb⟩; refine ⟨_, rfl, ?_⟩; have n0_ := Aside0.mk (below_step (by repeat (first | (with_reducible first | exact HB.out | apply below_alloc | apply pw_below_drewN | apply below_drew1) | exact HB.out)) hb); clear HB; have HB := n0_; clear n0_; (try clear hb); (try clear hb2); (try clear hk); (try clear hi)))
      go_meet
      case rel => exact ⟨_, (true), (by first | rfl | (simp; done) | (simp [*]; done)), H', ⟨by first | omega | exact Nat.le_refl _⟩, ⟨by repeat (first | (with_reducible first | exact HB.out | apply below_alloc | apply pw_below_drewN | apply below_drew1) | exact HB.out)⟩⟩
  case rest =>
    clear HC3
    try clear p2
    try clear c5
    try clear c6
    try clear c6b0
    try clear c6b1
    try clear c7
    obtain ⟨kq, x22_2, rfl, HA, HJ2, HB⟩ := hcut
    cases kq with
    | zero => exact absurd HA.out (by simp [zoneinfolaw17_LeapsCorrectionIsStep.j0])
    | succ kj2 =>
      have H := HA.out
      clear HA
      simp only [zoneinfolaw17_LeapsCorrectionIsStep.j0] at H
      by_cases c11 : x22_2 = true
      · subst c11
        have H1 : ((zoneinfolaw17_awake.f kj2).bind fun t323 => (some t323)) = some r := by rw [if_pos rfl] at H; exact H
        clear H
        have H := H1
        clear H1
        replace H := Option.bind_eq_some_iff.mp H
        obtain ⟨t323, A120, H⟩ := H
        replace H : (some t323) = some r := H
        have A12 := Aside0.mk A120
        clear A120
        obtain rfl := Option.some.inj H
        go_wp2_with (first | ((with_reducible refine gate_callee (f := 7) rfl ?_); refine goesL_ (some 23) rfl rfl Tryd.func7 (by kernel_rfl) rfl #[] rfl (by (try simp only [List.map_toArray, List.map_cons, List.map_nil]); first | done | rfl | (simp only [List.length_drop, List.length_take]; rfl)) ?_; (with_reducible refine (zoneinfolaw17_awake.calls kj2  t323 _ ?side1 A12.out).mono ?_); (case side1 => repeat (first | exact (Kd.C_below HRg.out HB.out) | (with_reducible refine Kd.C_alloc ?_ _) | (with_reducible refine Kd.C_drewN ?_ _) | (with_reducible refine Kd.C_drew ?_))); rintro e w13 ⟨rfl, hb⟩; refine ⟨_, rfl, ?_⟩; have n0_ := Aside0.mk (below_step (by repeat (first | (with_reducible first | exact HB.out | apply below_alloc | apply pw_below_drewN | apply below_drew1) | exact HB.out)) hb); clear HB; have HB := n0_; clear n0_; (try clear hb); (try clear hb2); (try clear hk); (try clear hi)))
        go_ret
        exact ⟨by first | rfl | (simp [errW_none, errW_some] <;> rfl) | (simp [*, errW_none, errW_some] <;> rfl), by repeat (first | (with_reducible first | exact HB.out | apply below_alloc | apply pw_below_drewN | apply below_drew1) | exact HB.out)⟩
      · replace c11 := Bool.eq_false_iff.mpr c11
        subst c11
        have H1 : (zoneinfolaw17_LeapsCorrectionIsStep.l0 kj2 l0 a1 0) = some r := by rw [if_neg (show ¬ (false = true) by decide)] at H; exact H
        clear H
        have H := H1
        clear H1
        have H' := Aside0.mk H
        clear H
        go_wp2
        go_loopg [5] kj2 (fun kq v5 w' => ∃ (x5_2 : Int), v5 = .int .i64 x5_2 ∧ Aside0 (zoneinfolaw17_LeapsCorrectionIsStep.l0 kq l0 a1 x5_2 = some r) ∧ Aside0 (kq ≤ kj2) ∧ Aside0 (Below w.heap.size w w'))
        case atStart => exact ⟨(0), (by first | rfl | (simp; done) | (simp [*]; done)), H', ⟨Nat.le_refl _⟩, ⟨by repeat (first | (with_reducible first | exact HB.out | apply below_alloc | apply pw_below_drewN | apply below_drew1) | exact HB.out)⟩⟩
        case round =>
          clear H'
          try clear c1
          try clear p2
          try clear c5
          try clear c6
          try clear c6b0
          try clear c6b1
          try clear c7
          try clear c11
          try clear p2
          obtain ⟨x5_2, rfl, HA, HK2, HB⟩ := hrel
          cases gk with
          | zero => exact absurd HA.out (by simp [zoneinfolaw17_LeapsCorrectionIsStep.l0])
          | succ k2 =>
            have H := HA.out
            clear HA
            simp only [zoneinfolaw17_LeapsCorrectionIsStep.l0] at H
            by_cases c14 : x5_2 < (l0.length : Int)
            · rw [if_pos c14] at H
              have c14b0 : decide (x5_2 < (l0.length : Int)) = true := decide_eq_true c14
              clear c14
              by_cases c15 : 0 ≤ x5_2
              · rw [if_pos c15] at H
                have c15b0 : decide (0 ≤ x5_2) = true := decide_eq_true c15
                clear c15
                replace H := Option.bind_eq_some_iff.mp H
                obtain ⟨t325, A160, H⟩ := H
                replace H : (if t325 = (wrap64 ((rd_T38 l0 x5_2).f1)) then (if x5_2 > 0 then (if 0 ≤ (wrap64 (x5_2 - 1)) then (if (wrap64 (x5_2 - 1)) < (l0.length : Int) then ((leaps_Correction.f k2 l0 (wrap64 (((rd_T38 l0 x5_2).f0) - 1))).bind fun t329 => (if t329 = (wrap64 ((rd_T38 l0 (wrap64 (x5_2 - 1))).f1)) then (zoneinfolaw17_LeapsCorrectionIsStep.l0 k2 l0 a1 (wrap64 (x5_2 + 1))) else (none))) else (none)) else (none)) else ((leaps_Correction.f k2 l0 (wrap64 (((rd_T38 l0 x5_2).f0) - 1))).bind fun t331 => (if t331 = 0 then (zoneinfolaw17_LeapsCorrectionIsStep.l0 k2 l0 a1 (wrap64 (x5_2 + 1))) else (none)))) else (none)) = some r := H
                have A16 := Aside0.mk A160
                clear A160
                by_cases c17 : t325 = (wrap64 ((rd_T38 l0 x5_2).f1))
                · rw [if_pos c17] at H
                  have c17b0 : (t325 == (wrap64 ((rd_T38 l0 x5_2).f1))) = true := beq_iff_eq.mpr c17
                  have c17b1 : (t325 != (wrap64 ((rd_T38 l0 x5_2).f1))) = false := bne_eq_false_iff_eq.mpr c17
                  clear c17
                  by_cases c18 : x5_2 > 0
                  · rw [if_pos c18] at H
                    have c18b0 : decide (0 < x5_2) = true := decide_eq_true c18
                    clear c18
                    obtain ⟨ji19, hji19⟩ : ∃ j_ : Int, (wrap64 (x5_2 - 1)) = j_ := ⟨_, rfl⟩
                    replace H : (if 0 ≤ (ji19) then (if (ji19) < (l0.length : Int) then ((leaps_Correction.f k2 l0 (wrap64 (((rd_T38 l0 x5_2).f0) - 1))).bind fun t329 => (if t329 = (wrap64 ((rd_T38 l0 (ji19)).f1)) then (zoneinfolaw17_LeapsCorrectionIsStep.l0 k2 l0 a1 (wrap64 (x5_2 + 1))) else (none))) else (none)) else (none)) = some r := by first | (rw [hji19] at H; exact H) | (simp only [hji19] at H ⊢; exact H)
                    (try rw [hji19] at A16)
                    have hji19w : (IntKind.i64.wrap (x5_2 - 1)) = ji19 := (i64_w _).trans hji19
                    by_cases c20 : 0 ≤ (ji19)
                    · rw [if_pos c20] at H
                      have c20b0 : decide (0 ≤ (ji19)) = true := decide_eq_true c20
                      clear c20
                      by_cases c21 : (ji19) < (l0.length : Int)
                      · rw [if_pos c21] at H
                        have c21b0 : decide ((ji19) < (l0.length : Int)) = true := decide_eq_true c21
                        clear c21
                        replace H := Option.bind_eq_some_iff.mp H
                        obtain ⟨t329, A220, H⟩ := H
                        replace H : (if t329 = (wrap64 ((rd_T38 l0 (ji19)).f1)) then (zoneinfolaw17_LeapsCorrectionIsStep.l0 k2 l0 a1 (wrap64 (x5_2 + 1))) else (none)) = some r := H
                        have A22 := Aside0.mk A220
                        clear A220
                        by_cases c23 : t329 = (wrap64 ((rd_T38 l0 (ji19)).f1))
                        · rw [if_pos c23] at H
                          have c23b0 : (t329 == (wrap64 ((rd_T38 l0 (ji19)).f1))) = true := beq_iff_eq.mpr c23
                          have c23b1 : (t329 != (wrap64 ((rd_T38 l0 (ji19)).f1))) = false := bne_eq_false_iff_eq.mpr c23
                          clear c23
                          have H' := Aside0.mk H
                          clear H
                          try go_wp2
                          have n0_ := Aside0.mk (below_drew1 HB.out)
                          clear HB
                          have HB := n0_
                          clear n0_
                          have p324 : 0 ≤ (x5_2 : Int) := of_decide_eq_true (by first | (with_reducible assumption) | assumption)
                          have q324 : x5_2 < (l0.length : Int) := of_decide_eq_true (by first | (with_reducible assumption) | assumption)
                          obtain ⟨ad324, e324, hx324_0, hx324_1⟩ := at_T38 HR0.out x5_2 p324 q324
                          have hw324_1 := hx324_1
                          have hw324_0 := hx324_0
                          cases e324
                          replace hx324_0 := (HB.out.cell (World.block_lt_of_cell? w _ hx324_0)).trans hx324_0
                          replace hx324_1 := (HB.out.cell (World.block_lt_of_cell? w _ hx324_1)).trans hx324_1
                          replace p324 := eq_true p324
                          replace q324 := eq_true q324
                          have p326 : 0 ≤ (x5_2 : Int) := of_decide_eq_true (by first | (with_reducible assumption) | assumption)
                          have q326 : x5_2 < (l0.length : Int) := of_decide_eq_true (by first | (with_reducible assumption) | assumption)
                          obtain ⟨ad326, e326, hx326_0, hx326_1⟩ := at_T38 HR0.out x5_2 p326 q326
                          have hw326_1 := hx326_1
                          have hw326_0 := hx326_0
                          obtain rfl : ad324 = ad326 := (by injection e326)
                          replace hx326_0 := (HB.out.cell (World.block_lt_of_cell? w _ hx326_0)).trans hx326_0
                          replace hx326_1 := (HB.out.cell (World.block_lt_of_cell? w _ hx326_1)).trans hx326_1
                          replace p326 := eq_true p326
                          replace q326 := eq_true q326
                          refine start_ (n := 14) (S := fun w' => w'.cell? (ad324.add ((x5_2).toNat * 2)) = some (.int .i64 ((rd_T38 l0 x5_2).f0)) ∧ w'.cell? ⟨(ad324.add ((x5_2).toNat * 2)).block, (ad324.add ((x5_2).toNat * 2)).off + 1, none⟩ = some (.int .i32 ((rd_T38 l0 x5_2).f1)) ∧ w'.cell? (ad324.add ((x5_2).toNat * 2)) = some (.int .i64 ((rd_T38 l0 x5_2).f0)) ∧ w'.cell? ⟨(ad324.add ((x5_2).toNat * 2)).block, (ad324.add ((x5_2).toNat * 2)).off + 1, none⟩ = some (.int .i32 ((rd_T38 l0 x5_2).f1))) (ds := []) #[false, false, false, false, false, false, false, false, false, false, false, false, false, false] (by kernel_rfl) rfl rfl ⟨((HB.out.cell (World.block_lt_of_cell? w _ hw324_0)).trans hw324_0), ((HB.out.cell (World.block_lt_of_cell? w _ hw324_1)).trans hw324_1), ((HB.out.cell (World.block_lt_of_cell? w _ hw326_0)).trans hw326_0), ((HB.out.cell (World.block_lt_of_cell? w _ hw326_1)).trans hw326_1)⟩ (fun hHeld => ?_); refine with_tabW zoneinfolaw17_LeapsCorrectionIsStep.tab6 zoneinfolaw17_LeapsCorrectionIsStep.bits6 (fun HT_ HW_ => ?_)
                          generalize wr.drew = w24 at HB hx324_0 hx324_1 hx326_0 hx326_1 hHeld ⊢
                          refine pure_ (i := 0) (N := some 30) (v := ?_) (a' := ?_) #[true, false, false, false, false, false, false, false, false, false, false, false, false, false] rfl rfl (any_of HT_.out (by kernel_rfl)) (fun _ _ _ h => h) (Or.inl ⟨by rfl, ?_⟩) ?_ ?_
                          rotate_left
                          · intro w'
                            go_simp
                            with_reducible rfl
                          rotate_left
                          · simp only [Act.put, List.setIfInBounds_toArray, List.set_cons_zero, List.set_cons_succ, i64_w, i32_w]
                            rfl
                          refine pure_ (i := 1) (N := some 31) (v := ?_) (a' := ?_) #[true, true, false, false, false, false, false, false, false, false, false, false, false, false] rfl rfl (any_of HT_.out (by kernel_rfl)) (fun _ _ _ h => h) (Or.inl ⟨by rfl, ?_⟩) ?_ ?_
                          rotate_left
                          · intro w'
                            go_simp
                            with_reducible rfl
                          rotate_left
                          · simp only [Act.put, List.setIfInBounds_toArray, List.set_cons_zero, List.set_cons_succ, i64_w, i32_w]
                            rfl
                          refine pure_ (i := 2) (N := some 32) (v := ?_) (a' := ?_) #[true, true, true, false, false, false, false, false, false, false, false, false, false, false] rfl rfl (any_of HT_.out (by kernel_rfl)) (fun _ _ _ h => h) (Or.inl ⟨by rfl, ?_⟩) ?_ ?_
                          rotate_left
                          · intro w'
                            go_simp
                            with_reducible rfl
                          rotate_left
                          · simp only [Act.put, List.setIfInBounds_toArray, List.set_cons_zero, List.set_cons_succ, i64_w, i32_w]
                            rfl
                          refine pure_ (i := 3) (N := some 33) (v := ?_) (a' := ?_) #[true, true, true, true, false, false, false, false, false, false, false, false, false, false] rfl rfl (any_of HT_.out (by kernel_rfl)) (fun _ _ _ h => h) (Or.inl ⟨by rfl, ?_⟩) ?_ ?_
                          rotate_left
                          · intro w'
                            go_simp
                            with_reducible rfl
                          rotate_left
                          · simp only [Act.put, List.setIfInBounds_toArray, List.set_cons_zero, List.set_cons_succ, i64_w, i32_w]
                            rfl
                          refine pure_ (i := 4) (N := some 34) (v := ?_) (a' := ?_) #[true, true, true, true, true, false, false, false, false, false, false, false, false, false] rfl rfl (any_of HT_.out (by kernel_rfl)) (fun _ _ _ h => h) (Or.inl ⟨by rfl, ?_⟩) ?_ ?_
                          rotate_left
                          · intro w'
                            go_simp
                            with_reducible rfl
                          rotate_left
                          · simp only [Act.put, List.setIfInBounds_toArray, List.set_cons_zero, List.set_cons_succ, i64_w, i32_w]
                            rfl
                          refine pure_ (i := 7) (N := some 37) (v := ?_) (a' := ?_) #[true, true, true, true, true, false, false, true, false, false, false, false, false, false] rfl rfl (any_of HT_.out (by kernel_rfl)) (fun _ _ _ h => h) (Or.inl ⟨by rfl, ?_⟩) ?_ ?_
                          rotate_left
                          · intro w'
                            go_simp
                            with_reducible rfl
                          rotate_left
                          · simp only [Act.put, List.setIfInBounds_toArray, List.set_cons_zero, List.set_cons_succ, i64_w, i32_w]
                            rfl
                          refine pure_ (i := 8) (N := some 38) (v := ?_) (a' := ?_) #[true, true, true, true, true, false, false, true, true, false, false, false, false, false] rfl rfl (any_of HT_.out (by kernel_rfl)) (fun _ _ _ h => h) (Or.inl ⟨by rfl, ?_⟩) ?_ ?_
                          rotate_left
                          · intro w'
                            go_simp
                            with_reducible rfl
                          rotate_left
                          · simp only [Act.put, List.setIfInBounds_toArray, List.set_cons_zero, List.set_cons_succ, i64_w, i32_w]
                            rfl
                          refine pure_ (i := 9) (N := some 39) (v := ?_) (a' := ?_) #[true, true, true, true, true, false, false, true, true, true, false, false, false, false] rfl rfl (any_of HT_.out (by kernel_rfl)) (fun _ _ _ h => h) (Or.inl ⟨by rfl, ?_⟩) ?_ ?_
                          rotate_left
                          · intro w'
                            go_simp
                            with_reducible rfl
                          rotate_left
                          · simp only [Act.put, List.setIfInBounds_toArray, List.set_cons_zero, List.set_cons_succ, i64_w, i32_w]
                            rfl
                          refine pure_ (i := 10) (N := some 40) (v := ?_) (a' := ?_) #[true, true, true, true, true, false, false, true, true, true, true, false, false, false] rfl rfl (any_of HT_.out (by kernel_rfl)) (fun _ _ _ h => h) (Or.inl ⟨by rfl, ?_⟩) ?_ ?_
                          rotate_left
                          · intro w'
                            go_simp
                            with_reducible rfl
                          rotate_left
                          · simp only [Act.put, List.setIfInBounds_toArray, List.set_cons_zero, List.set_cons_succ, i64_w, i32_w]
                            rfl
                          refine take_ (i := 5) (N := some 35) (v := ?_) (a' := ?_) #[true, true, true, true, true, true, false, true, true, true, true, false, false, false] rfl rfl (take_ofW HT_.out HW_.out (by kernel_rfl)) (fun _ _ _ h => h) (Or.inl ⟨by rfl, ?_⟩) hHeld ?_ ?_
                          rotate_left
                          · rintro w' ⟨s0, s1, s2, s3⟩
                            go_simp
                            with_reducible rfl
                          rotate_left
                          · simp only [Act.put, List.setIfInBounds_toArray, List.set_cons_zero, List.set_cons_succ, i64_w, i32_w]
                            rfl
                          refine take_ (i := 11) (N := some 41) (v := ?_) (a' := ?_) #[true, true, true, true, true, true, false, true, true, true, true, true, false, false] rfl rfl (take_ofW HT_.out HW_.out (by kernel_rfl)) (fun _ _ _ h => h) (Or.inl ⟨by rfl, ?_⟩) hHeld ?_ ?_
                          rotate_left
                          · rintro w' ⟨s0, s1, s2, s3⟩
                            go_simp
                            with_reducible rfl
                          rotate_left
                          · simp only [Act.put, List.setIfInBounds_toArray, List.set_cons_zero, List.set_cons_succ, i64_w, i32_w]
                            rfl
                          refine pure_ (i := 12) (N := some 42) (v := ?_) (a' := ?_) #[true, true, true, true, true, true, false, true, true, true, true, true, true, false] rfl rfl (any_of HT_.out (by kernel_rfl)) (fun _ _ _ h => h) (Or.inl ⟨by rfl, ?_⟩) ?_ ?_
                          rotate_left
                          · intro w'
                            go_simp
                            with_reducible rfl
                          rotate_left
                          · simp only [Act.put, List.setIfInBounds_toArray, List.set_cons_zero, List.set_cons_succ, i64_w, i32_w]
                            rfl
                          refine one_ (i := 6) (N := some 36) #[true, true, true, true, true, true, true, true, true, true, true, true, true, false] rfl rfl (one_of HT_.out (by kernel_rfl)) (by decide) (fun K hK => ?_)
                          refine goes_ Tryd.func21 (by kernel_rfl) rfl #[.slice (some ad324) l0.length c0, .int .i64 ((rd_T38 l0 x5_2).f0)] (by rfl) rfl rfl (by (try simp only [List.map_toArray, List.map_cons, List.map_nil]); first | done | rfl | (simp only [List.length_drop, List.length_take]; rfl)) ?_
                          with_reducible refine (leaps_Correction.calls k2 _ _ l0 ((rd_T38 l0 x5_2).f0) t325 _ ?side1 ?side2 A16.out).mono ?_
                          (case side1 => repeat (first | exact (Kd.C_below HR0.out HB.out) | (with_reducible refine Kd.C_alloc ?_ _) | (with_reducible refine Kd.C_drewN ?_ _) | (with_reducible refine Kd.C_drew ?_)))
                          (case side2 => exact HC0.out)
                          rintro e w25 ⟨rfl, hb⟩
                          refine ⟨_, rfl, ?_⟩
                          have n0_ := Aside0.mk (below_step (by repeat (first | (with_reducible first | exact HB.out | apply below_alloc | apply pw_below_drewN | apply below_drew1) | exact HB.out)) hb)
                          clear HB
                          have HB := n0_
                          clear n0_
                          (try clear hb)
                          (try clear hb2)
                          (try clear hk)
                          (try clear hi)
                          refine hK.out _ _ ⟨((HB.out.cell (World.block_lt_of_cell? w _ hw324_0)).trans hw324_0), ((HB.out.cell (World.block_lt_of_cell? w _ hw324_1)).trans hw324_1), ((HB.out.cell (World.block_lt_of_cell? w _ hw326_0)).trans hw326_0), ((HB.out.cell (World.block_lt_of_cell? w _ hw326_1)).trans hw326_1)⟩ (fun hHeld => ?_)
                          clear hK K
                          refine norm_ (a' := ?_) ?_ ?_
                          rotate_left
                          · show Act.put _ (some 36) _ = _
                            simp only [Act.put, List.setIfInBounds_toArray, List.set_cons_zero, List.set_cons_succ, i64_w, i32_w]
                            rfl
                          refine pure_ (i := 13) (N := some 43) (v := ?_) (a' := ?_) #[true, true, true, true, true, true, true, true, true, true, true, true, true, true] rfl rfl (any_of HT_.out (by kernel_rfl)) (fun _ _ _ h => h) (Or.inl ⟨by rfl, ?_⟩) ?_ ?_
                          rotate_left
                          · intro w'
                            go_simp
                            with_reducible rfl
                          rotate_left
                          · simp only [Act.put, List.setIfInBounds_toArray, List.set_cons_zero, List.set_cons_succ, i64_w, i32_w]
                            rfl
                          refine done_ (done_of HT_.out (by kernel_rfl)) ?_
                          have p327 : 0 ≤ ((ji19) : Int) := of_decide_eq_true (by first | (with_reducible assumption) | assumption)
                          have q327 : (ji19) < (l0.length : Int) := of_decide_eq_true (by first | (with_reducible assumption) | assumption)
                          obtain ⟨ad327, e327, hx327_0, hx327_1⟩ := at_T38 HR0.out (ji19) p327 q327
                          obtain rfl : ad324 = ad327 := (by injection e327)
                          replace hx327_0 := (HB.out.cell (World.block_lt_of_cell? w _ hx327_0)).trans hx327_0
                          replace hx327_1 := (HB.out.cell (World.block_lt_of_cell? w _ hx327_1)).trans hx327_1
                          replace p327 := eq_true p327
                          replace q327 := eq_true q327
                          have p328 : 0 ≤ (x5_2 : Int) := of_decide_eq_true (by first | (with_reducible assumption) | assumption)
                          have q328 : x5_2 < (l0.length : Int) := of_decide_eq_true (by first | (with_reducible assumption) | assumption)
                          obtain ⟨ad328, e328, hx328_0, hx328_1⟩ := at_T38 HR0.out x5_2 p328 q328
                          obtain rfl : ad324 = ad328 := (by injection e328)
                          replace hx328_0 := (HB.out.cell (World.block_lt_of_cell? w _ hx328_0)).trans hx328_0
                          replace hx328_1 := (HB.out.cell (World.block_lt_of_cell? w _ hx328_1)).trans hx328_1
                          replace p328 := eq_true p328
                          replace q328 := eq_true q328
                          try go_wp2_with (first | ((with_reducible refine gate_callee (f := 21) rfl ?_); refine goesL_ (some 60) rfl rfl Tryd.func21 (by kernel_rfl) rfl #[.slice (some ad324) l0.length c0, .int .i64 (wrap64 (((rd_T38 l0 x5_2).f0) - 1))] rfl (by (try simp only [List.map_toArray, List.map_cons, List.map_nil]); first | done | rfl | (simp only [List.length_drop, List.length_take]; rfl)) ?_; (with_reducible refine (leaps_Correction.calls k2 _ _ l0 (wrap64 (((rd_T38 l0 x5_2).f0) - 1)) t329 _ ?side1 ?side2 A22.out).mono ?_); (case side1 => repeat (first | exact (Kd.C_below HR0.out HB.out) | (with_reducible refine Kd.C_alloc ?_ _) | (with_reducible refine Kd.C_drewN ?_ _) | (with_reducible refine Kd.C_drew ?_))); (case side2 => exact HC0.out); rintro e w26 ⟨rfl, hb⟩; refine ⟨_, rfl, ?_⟩; have n0_ := Aside0.mk (below_step (by repeat (first | (with_reducible first | exact HB.out | apply below_alloc | apply pw_below_drewN | apply below_drew1) | exact HB.out)) hb); clear HB; have HB := n0_; clear n0_; (try clear hb); (try clear hb2); (try clear hk); (try clear hi)))
                          go_roundg k2
                          case measure => have := HJ2.out; have := HK2.out; omega
                          case rel => exact ⟨(wrap64 (x5_2 + 1)), (by first | rfl | (simp; done) | (simp [*]; done)), H', ⟨by have := HJ2.out; have := HK2.out; omega⟩, ⟨by repeat (first | (with_reducible first | exact HB.out | apply below_alloc | apply pw_below_drewN | apply below_drew1) | exact HB.out)⟩⟩
                        · rw [if_neg c23] at H
                          exact absurd H (by simp)
                      · rw [if_neg c21] at H
                        exact absurd H (by simp)
                    · rw [if_neg c20] at H
                      exact absurd H (by simp)
                  · rw [if_neg c18] at H
                    have c18b0 : decide (0 < x5_2) = false := decide_eq_false c18
                    clear c18
                    replace H := Option.bind_eq_some_iff.mp H
                    obtain ⟨t331, A270, H⟩ := H
                    replace H : (if t331 = 0 then (zoneinfolaw17_LeapsCorrectionIsStep.l0 k2 l0 a1 (wrap64 (x5_2 + 1))) else (none)) = some r := H
                    have A27 := Aside0.mk A270
                    clear A270
                    by_cases c28 : t331 = 0
                    · rw [if_pos c28] at H
                      have c28b0 : (t331 == 0) = true := beq_iff_eq.mpr c28
                      have c28b1 : (t331 != 0) = false := bne_eq_false_iff_eq.mpr c28
                      clear c28
                      have H' := Aside0.mk H
                      clear H
                      try go_wp2
                      have n0_ := Aside0.mk (below_drew1 HB.out)
                      clear HB
                      have HB := n0_
                      clear n0_
                      have p324 : 0 ≤ (x5_2 : Int) := of_decide_eq_true (by first | (with_reducible assumption) | assumption)
                      have q324 : x5_2 < (l0.length : Int) := of_decide_eq_true (by first | (with_reducible assumption) | assumption)
                      obtain ⟨ad324, e324, hx324_0, hx324_1⟩ := at_T38 HR0.out x5_2 p324 q324
                      have hw324_1 := hx324_1
                      have hw324_0 := hx324_0
                      cases e324
                      replace hx324_0 := (HB.out.cell (World.block_lt_of_cell? w _ hx324_0)).trans hx324_0
                      replace hx324_1 := (HB.out.cell (World.block_lt_of_cell? w _ hx324_1)).trans hx324_1
                      replace p324 := eq_true p324
                      replace q324 := eq_true q324
                      have p326 : 0 ≤ (x5_2 : Int) := of_decide_eq_true (by first | (with_reducible assumption) | assumption)
                      have q326 : x5_2 < (l0.length : Int) := of_decide_eq_true (by first | (with_reducible assumption) | assumption)
                      obtain ⟨ad326, e326, hx326_0, hx326_1⟩ := at_T38 HR0.out x5_2 p326 q326
                      have hw326_1 := hx326_1
                      have hw326_0 := hx326_0
                      obtain rfl : ad324 = ad326 := (by injection e326)
                      replace hx326_0 := (HB.out.cell (World.block_lt_of_cell? w _ hx326_0)).trans hx326_0
                      replace hx326_1 := (HB.out.cell (World.block_lt_of_cell? w _ hx326_1)).trans hx326_1
                      replace p326 := eq_true p326
                      replace q326 := eq_true q326
                      refine start_ (n := 14) (S := fun w' => w'.cell? (ad324.add ((x5_2).toNat * 2)) = some (.int .i64 ((rd_T38 l0 x5_2).f0)) ∧ w'.cell? ⟨(ad324.add ((x5_2).toNat * 2)).block, (ad324.add ((x5_2).toNat * 2)).off + 1, none⟩ = some (.int .i32 ((rd_T38 l0 x5_2).f1)) ∧ w'.cell? (ad324.add ((x5_2).toNat * 2)) = some (.int .i64 ((rd_T38 l0 x5_2).f0)) ∧ w'.cell? ⟨(ad324.add ((x5_2).toNat * 2)).block, (ad324.add ((x5_2).toNat * 2)).off + 1, none⟩ = some (.int .i32 ((rd_T38 l0 x5_2).f1))) (ds := []) #[false, false, false, false, false, false, false, false, false, false, false, false, false, false] (by kernel_rfl) rfl rfl ⟨((HB.out.cell (World.block_lt_of_cell? w _ hw324_0)).trans hw324_0), ((HB.out.cell (World.block_lt_of_cell? w _ hw324_1)).trans hw324_1), ((HB.out.cell (World.block_lt_of_cell? w _ hw326_0)).trans hw326_0), ((HB.out.cell (World.block_lt_of_cell? w _ hw326_1)).trans hw326_1)⟩ (fun hHeld => ?_); refine with_tabW zoneinfolaw17_LeapsCorrectionIsStep.tab6 zoneinfolaw17_LeapsCorrectionIsStep.bits6 (fun HT_ HW_ => ?_)
                      generalize wr.drew = w29 at HB hx324_0 hx324_1 hx326_0 hx326_1 hHeld ⊢
                      refine pure_ (i := 0) (N := some 30) (v := ?_) (a' := ?_) #[true, false, false, false, false, false, false, false, false, false, false, false, false, false] rfl rfl (any_of HT_.out (by kernel_rfl)) (fun _ _ _ h => h) (Or.inl ⟨by rfl, ?_⟩) ?_ ?_
                      rotate_left
                      · intro w'
                        go_simp
                        with_reducible rfl
                      rotate_left
                      · simp only [Act.put, List.setIfInBounds_toArray, List.set_cons_zero, List.set_cons_succ, i64_w, i32_w]
                        rfl
                      refine pure_ (i := 1) (N := some 31) (v := ?_) (a' := ?_) #[true, true, false, false, false, false, false, false, false, false, false, false, false, false] rfl rfl (any_of HT_.out (by kernel_rfl)) (fun _ _ _ h => h) (Or.inl ⟨by rfl, ?_⟩) ?_ ?_
                      rotate_left
                      · intro w'
                        go_simp
                        with_reducible rfl
                      rotate_left
                      · simp only [Act.put, List.setIfInBounds_toArray, List.set_cons_zero, List.set_cons_succ, i64_w, i32_w]
                        rfl
                      refine pure_ (i := 2) (N := some 32) (v := ?_) (a' := ?_) #[true, true, true, false, false, false, false, false, false, false, false, false, false, false] rfl rfl (any_of HT_.out (by kernel_rfl)) (fun _ _ _ h => h) (Or.inl ⟨by rfl, ?_⟩) ?_ ?_
                      rotate_left
                      · intro w'
                        go_simp
                        with_reducible rfl
                      rotate_left
                      · simp only [Act.put, List.setIfInBounds_toArray, List.set_cons_zero, List.set_cons_succ, i64_w, i32_w]
                        rfl
                      refine pure_ (i := 3) (N := some 33) (v := ?_) (a' := ?_) #[true, true, true, true, false, false, false, false, false, false, false, false, false, false] rfl rfl (any_of HT_.out (by kernel_rfl)) (fun _ _ _ h => h) (Or.inl ⟨by rfl, ?_⟩) ?_ ?_
                      rotate_left
                      · intro w'
                        go_simp
                        with_reducible rfl
                      rotate_left
                      · simp only [Act.put, List.setIfInBounds_toArray, List.set_cons_zero, List.set_cons_succ, i64_w, i32_w]
                        rfl
                      refine pure_ (i := 4) (N := some 34) (v := ?_) (a' := ?_) #[true, true, true, true, true, false, false, false, false, false, false, false, false, false] rfl rfl (any_of HT_.out (by kernel_rfl)) (fun _ _ _ h => h) (Or.inl ⟨by rfl, ?_⟩) ?_ ?_
                      rotate_left
                      · intro w'
                        go_simp
                        with_reducible rfl
                      rotate_left
                      · simp only [Act.put, List.setIfInBounds_toArray, List.set_cons_zero, List.set_cons_succ, i64_w, i32_w]
                        rfl
                      refine pure_ (i := 7) (N := some 37) (v := ?_) (a' := ?_) #[true, true, true, true, true, false, false, true, false, false, false, false, false, false] rfl rfl (any_of HT_.out (by kernel_rfl)) (fun _ _ _ h => h) (Or.inl ⟨by rfl, ?_⟩) ?_ ?_
                      rotate_left
                      · intro w'
                        go_simp
                        with_reducible rfl
                      rotate_left
                      · simp only [Act.put, List.setIfInBounds_toArray, List.set_cons_zero, List.set_cons_succ, i64_w, i32_w]
                        rfl
                      refine pure_ (i := 8) (N := some 38) (v := ?_) (a' := ?_) #[true, true, true, true, true, false, false, true, true, false, false, false, false, false] rfl rfl (any_of HT_.out (by kernel_rfl)) (fun _ _ _ h => h) (Or.inl ⟨by rfl, ?_⟩) ?_ ?_
                      rotate_left
                      · intro w'
                        go_simp
                        with_reducible rfl
                      rotate_left
                      · simp only [Act.put, List.setIfInBounds_toArray, List.set_cons_zero, List.set_cons_succ, i64_w, i32_w]
                        rfl
                      refine pure_ (i := 9) (N := some 39) (v := ?_) (a' := ?_) #[true, true, true, true, true, false, false, true, true, true, false, false, false, false] rfl rfl (any_of HT_.out (by kernel_rfl)) (fun _ _ _ h => h) (Or.inl ⟨by rfl, ?_⟩) ?_ ?_
                      rotate_left
                      · intro w'
                        go_simp
                        with_reducible rfl
                      rotate_left
                      · simp only [Act.put, List.setIfInBounds_toArray, List.set_cons_zero, List.set_cons_succ, i64_w, i32_w]
                        rfl
                      refine pure_ (i := 10) (N := some 40) (v := ?_) (a' := ?_) #[true, true, true, true, true, false, false, true, true, true, true, false, false, false] rfl rfl (any_of HT_.out (by kernel_rfl)) (fun _ _ _ h => h) (Or.inl ⟨by rfl, ?_⟩) ?_ ?_
                      rotate_left
                      · intro w'
                        go_simp
                        with_reducible rfl
                      rotate_left
                      · simp only [Act.put, List.setIfInBounds_toArray, List.set_cons_zero, List.set_cons_succ, i64_w, i32_w]
                        rfl
                      refine take_ (i := 5) (N := some 35) (v := ?_) (a' := ?_) #[true, true, true, true, true, true, false, true, true, true, true, false, false, false] rfl rfl (take_ofW HT_.out HW_.out (by kernel_rfl)) (fun _ _ _ h => h) (Or.inl ⟨by rfl, ?_⟩) hHeld ?_ ?_
                      rotate_left
                      · rintro w' ⟨s0, s1, s2, s3⟩
                        go_simp
                        with_reducible rfl
                      rotate_left
                      · simp only [Act.put, List.setIfInBounds_toArray, List.set_cons_zero, List.set_cons_succ, i64_w, i32_w]
                        rfl
                      refine take_ (i := 11) (N := some 41) (v := ?_) (a' := ?_) #[true, true, true, true, true, true, false, true, true, true, true, true, false, false] rfl rfl (take_ofW HT_.out HW_.out (by kernel_rfl)) (fun _ _ _ h => h) (Or.inl ⟨by rfl, ?_⟩) hHeld ?_ ?_
                      rotate_left
                      · rintro w' ⟨s0, s1, s2, s3⟩
                        go_simp
                        with_reducible rfl
                      rotate_left
                      · simp only [Act.put, List.setIfInBounds_toArray, List.set_cons_zero, List.set_cons_succ, i64_w, i32_w]
                        rfl
                      refine pure_ (i := 12) (N := some 42) (v := ?_) (a' := ?_) #[true, true, true, true, true, true, false, true, true, true, true, true, true, false] rfl rfl (any_of HT_.out (by kernel_rfl)) (fun _ _ _ h => h) (Or.inl ⟨by rfl, ?_⟩) ?_ ?_
                      rotate_left
                      · intro w'
                        go_simp
                        with_reducible rfl
                      rotate_left
                      · simp only [Act.put, List.setIfInBounds_toArray, List.set_cons_zero, List.set_cons_succ, i64_w, i32_w]
                        rfl
                      refine one_ (i := 6) (N := some 36) #[true, true, true, true, true, true, true, true, true, true, true, true, true, false] rfl rfl (one_of HT_.out (by kernel_rfl)) (by decide) (fun K hK => ?_)
                      refine goes_ Tryd.func21 (by kernel_rfl) rfl #[.slice (some ad324) l0.length c0, .int .i64 ((rd_T38 l0 x5_2).f0)] (by rfl) rfl rfl (by (try simp only [List.map_toArray, List.map_cons, List.map_nil]); first | done | rfl | (simp only [List.length_drop, List.length_take]; rfl)) ?_
                      with_reducible refine (leaps_Correction.calls k2 _ _ l0 ((rd_T38 l0 x5_2).f0) t325 _ ?side1 ?side2 A16.out).mono ?_
                      (case side1 => repeat (first | exact (Kd.C_below HR0.out HB.out) | (with_reducible refine Kd.C_alloc ?_ _) | (with_reducible refine Kd.C_drewN ?_ _) | (with_reducible refine Kd.C_drew ?_)))
                      (case side2 => exact HC0.out)
                      rintro e w30 ⟨rfl, hb⟩
                      refine ⟨_, rfl, ?_⟩
                      have n0_ := Aside0.mk (below_step (by repeat (first | (with_reducible first | exact HB.out | apply below_alloc | apply pw_below_drewN | apply below_drew1) | exact HB.out)) hb)
                      clear HB
                      have HB := n0_
                      clear n0_
                      (try clear hb)
                      (try clear hb2)
                      (try clear hk)
                      (try clear hi)
                      refine hK.out _ _ ⟨((HB.out.cell (World.block_lt_of_cell? w _ hw324_0)).trans hw324_0), ((HB.out.cell (World.block_lt_of_cell? w _ hw324_1)).trans hw324_1), ((HB.out.cell (World.block_lt_of_cell? w _ hw326_0)).trans hw326_0), ((HB.out.cell (World.block_lt_of_cell? w _ hw326_1)).trans hw326_1)⟩ (fun hHeld => ?_)
                      clear hK K
                      refine norm_ (a' := ?_) ?_ ?_
                      rotate_left
                      · show Act.put _ (some 36) _ = _
                        simp only [Act.put, List.setIfInBounds_toArray, List.set_cons_zero, List.set_cons_succ, i64_w, i32_w]
                        rfl
                      refine pure_ (i := 13) (N := some 43) (v := ?_) (a' := ?_) #[true, true, true, true, true, true, true, true, true, true, true, true, true, true] rfl rfl (any_of HT_.out (by kernel_rfl)) (fun _ _ _ h => h) (Or.inl ⟨by rfl, ?_⟩) ?_ ?_
                      rotate_left
                      · intro w'
                        go_simp
                        with_reducible rfl
                      rotate_left
                      · simp only [Act.put, List.setIfInBounds_toArray, List.set_cons_zero, List.set_cons_succ, i64_w, i32_w]
                        rfl
                      refine done_ (done_of HT_.out (by kernel_rfl)) ?_
                      have p330 : 0 ≤ (x5_2 : Int) := of_decide_eq_true (by first | (with_reducible assumption) | assumption)
                      have q330 : x5_2 < (l0.length : Int) := of_decide_eq_true (by first | (with_reducible assumption) | assumption)
                      obtain ⟨ad330, e330, hx330_0, hx330_1⟩ := at_T38 HR0.out x5_2 p330 q330
                      obtain rfl : ad324 = ad330 := (by injection e330)
                      replace hx330_0 := (HB.out.cell (World.block_lt_of_cell? w _ hx330_0)).trans hx330_0
                      replace hx330_1 := (HB.out.cell (World.block_lt_of_cell? w _ hx330_1)).trans hx330_1
                      replace p330 := eq_true p330
                      replace q330 := eq_true q330
                      try go_wp2_with (first | ((with_reducible refine gate_callee (f := 21) rfl ?_); refine goesL_ (some 60) rfl rfl Tryd.func21 (by kernel_rfl) rfl #[.slice (some ad324) l0.length c0, .int .i64 (wrap64 (((rd_T38 l0 x5_2).f0) - 1))] rfl (by (try simp only [List.map_toArray, List.map_cons, List.map_nil]); first | done | rfl | (simp only [List.length_drop, List.length_take]; rfl)) ?_; (with_reducible refine (leaps_Correction.calls k2 _ _ l0 (wrap64 (((rd_T38 l0 x5_2).f0) - 1)) t331 _ ?side1 ?side2 A27.out).mono ?_); (case side1 => repeat (first | exact (Kd.C_below HR0.out HB.out) | (with_reducible refine Kd.C_alloc ?_ _) | (with_reducible refine Kd.C_drewN ?_ _) | (with_reducible refine Kd.C_drew ?_))); (case side2 => exact HC0.out); rintro e w31 ⟨rfl, hb⟩; refine ⟨_, rfl, ?_⟩; have n0_ := Aside0.mk (below_step (by repeat (first | (with_reducible first | exact HB.out | apply below_alloc | apply pw_below_drewN | apply below_drew1) | exact HB.out)) hb); clear HB; have HB := n0_; clear n0_; (try clear hb); (try clear hb2); (try clear hk); (try clear hi)))
                      go_roundg k2
                      case measure => have := HJ2.out; have := HK2.out; omega
                      case rel => exact ⟨(wrap64 (x5_2 + 1)), (by first | rfl | (simp; done) | (simp [*]; done)), H', ⟨by have := HJ2.out; have := HK2.out; omega⟩, ⟨by repeat (first | (with_reducible first | exact HB.out | apply below_alloc | apply pw_below_drewN | apply below_drew1) | exact HB.out)⟩⟩
                    · rw [if_neg c28] at H
                      exact absurd H (by simp)
                · rw [if_neg c17] at H
                  exact absurd H (by simp)
              · rw [if_neg c15] at H
                exact absurd H (by simp)
            · rw [if_neg c14] at H
              have c14b0 : decide (x5_2 < (l0.length : Int)) = false := decide_eq_false c14
              clear c14
              replace H := Option.bind_eq_some_iff.mp H
              obtain ⟨⟨t332, t333⟩, A320, H⟩ := H
              replace H : (if t333 = true then (if (l0.length : Int) < 2 then (zoneinfolaw17_LeapsCorrectionIsStep.j2 k2 l0 a1 true) else (if 0 ≤ (wrap64 ((l0.length : Int) - 1)) then (if (wrap64 ((l0.length : Int) - 1)) < (l0.length : Int) then (if t332 = ((rd_T38 l0 (wrap64 ((l0.length : Int) - 1))).f0) then ((leaps_Correction.f k2 l0 t332).bind fun t335 => ((leaps_Correction.f k2 l0 (wrap64 (t332 - 1))).bind fun t336 => (zoneinfolaw17_LeapsCorrectionIsStep.j2 k2 l0 a1 (t335 != t336)))) else (zoneinfolaw17_LeapsCorrectionIsStep.j2 k2 l0 a1 true)) else (none)) else (none))) else (zoneinfolaw17_LeapsCorrectionIsStep.j2 k2 l0 a1 false)) = some r := H
              have A32 := Aside0.mk A320
              clear A320
              have HC33 := Aside0.mk H
              clear H
              go_upto_region 14 with (first | ((with_reducible refine gate_callee (f := 19) rfl ?_); refine goesL_ (some 65) rfl rfl Tryd.func19 (by kernel_rfl) rfl #[.slice A0 l0.length c0] rfl (by (try simp only [List.map_toArray, List.map_cons, List.map_nil]); first | done | rfl | (simp only [List.length_drop, List.length_take]; rfl)) ?_; (with_reducible refine (leaps_Expiry.calls _ _ l0 t332 t333 _ ?side1 ?side2 A32.out).mono ?_); (case side1 => repeat (first | exact (Kd.C_below HR0.out HB.out) | (with_reducible refine Kd.C_alloc ?_ _) | (with_reducible refine Kd.C_drewN ?_ _) | (with_reducible refine Kd.C_drew ?_))); (case side2 => exact HC0.out); rintro e w' ⟨rfl, ⟨nd, rfl⟩⟩; refine ⟨_, rfl, ?_⟩))
              (try simp only [Act.put, List.setIfInBounds_toArray, List.set_cons_zero, List.set_cons_succ])
              go_cut [94] (fun v94 wc => ∃ (kq : Nat) (x94_32 : Bool), v94 = .bool x94_32 ∧ Aside0 (zoneinfolaw17_LeapsCorrectionIsStep.j2 kq l0 a1 x94_32 = some r) ∧ Aside0 (kq ≤ k2) ∧ Aside0 (Below w.heap.size w wc))
              case first =>
                have H := HC33.out
                clear HC33
                by_cases c34 : t333 = true
                · subst c34
                  have H1 : (if (l0.length : Int) < 2 then (zoneinfolaw17_LeapsCorrectionIsStep.j2 k2 l0 a1 true) else (if 0 ≤ (wrap64 ((l0.length : Int) - 1)) then (if (wrap64 ((l0.length : Int) - 1)) < (l0.length : Int) then (if t332 = ((rd_T38 l0 (wrap64 ((l0.length : Int) - 1))).f0) then ((leaps_Correction.f k2 l0 t332).bind fun t335 => ((leaps_Correction.f k2 l0 (wrap64 (t332 - 1))).bind fun t336 => (zoneinfolaw17_LeapsCorrectionIsStep.j2 k2 l0 a1 (t335 != t336)))) else (zoneinfolaw17_LeapsCorrectionIsStep.j2 k2 l0 a1 true)) else (none)) else (none))) = some r := by rw [if_pos rfl] at H; exact H
                  clear H
                  have H := H1
                  clear H1
                  by_cases c35 : (l0.length : Int) < 2
                  · rw [if_pos c35] at H
                    have c35b0 : decide ((l0.length : Int) < 2) = true := decide_eq_true c35
                    have c35b1 : decide (l0.length < 2) = true := decide_eq_true (by omega)
                    clear c35
                    (first | rw [c35b0] | (simp only [i64_w, i32_w]; rw [c35b0]) | skip)
                    have H' := Aside0.mk H
                    clear H
                    go_wp2
                    go_meet
                    case rel => exact ⟨_, (true), (by first | rfl | (simp; done) | (simp [*]; done)), H', ⟨by have := HJ2.out; have := HK2.out; first | omega | exact Nat.le_refl _⟩, ⟨by repeat (first | (with_reducible first | exact HB.out | apply below_alloc | apply pw_below_drewN | apply below_drew1) | exact HB.out)⟩⟩
                  · rw [if_neg c35] at H
                    have c35b0 : decide ((l0.length : Int) < 2) = false := decide_eq_false c35
                    have c35b1 : decide (l0.length < 2) = false := decide_eq_false (by omega)
                    clear c35
                    (first | rw [c35b0] | (simp only [i64_w, i32_w]; rw [c35b0]) | skip)
                    obtain ⟨ji36, hji36⟩ : ∃ j_ : Int, (wrap64 ((l0.length : Int) - 1)) = j_ := ⟨_, rfl⟩
                    replace H : (if 0 ≤ (ji36) then (if (ji36) < (l0.length : Int) then (if t332 = ((rd_T38 l0 (ji36)).f0) then ((leaps_Correction.f k2 l0 t332).bind fun t335 => ((leaps_Correction.f k2 l0 (wrap64 (t332 - 1))).bind fun t336 => (zoneinfolaw17_LeapsCorrectionIsStep.j2 k2 l0 a1 (t335 != t336)))) else (zoneinfolaw17_LeapsCorrectionIsStep.j2 k2 l0 a1 true)) else (none)) else (none)) = some r := by first | (rw [hji36] at H; exact H) | (simp only [hji36] at H ⊢; exact H)
                    have hji36w : (IntKind.i64.wrap ((l0.length : Int) - 1)) = ji36 := (i64_w _).trans hji36
                    by_cases c37 : 0 ≤ (ji36)
                    · rw [if_pos c37] at H
                      have c37b0 : decide (0 ≤ (ji36)) = true := decide_eq_true c37
                      clear c37
                      by_cases c38 : (ji36) < (l0.length : Int)
                      · rw [if_pos c38] at H
                        have c38b0 : decide ((ji36) < (l0.length : Int)) = true := decide_eq_true c38
                        clear c38
                        by_cases c39 : t332 = ((rd_T38 l0 (ji36)).f0)
                        · rw [if_pos c39] at H
                          have c39b0 : (t332 == ((rd_T38 l0 (ji36)).f0)) = true := beq_iff_eq.mpr c39
                          have c39b1 : (t332 != ((rd_T38 l0 (ji36)).f0)) = false := bne_eq_false_iff_eq.mpr c39
                          clear c39
                          replace H := Option.bind_eq_some_iff.mp H
                          obtain ⟨t335, A400, H⟩ := H
                          replace H : ((leaps_Correction.f k2 l0 (wrap64 (t332 - 1))).bind fun t336 => (zoneinfolaw17_LeapsCorrectionIsStep.j2 k2 l0 a1 (t335 != t336))) = some r := H
                          have A40 := Aside0.mk A400
                          clear A400
                          replace H := Option.bind_eq_some_iff.mp H
                          obtain ⟨t336, A410, H⟩ := H
                          replace H : (zoneinfolaw17_LeapsCorrectionIsStep.j2 k2 l0 a1 (t335 != t336)) = some r := H
                          have A41 := Aside0.mk A410
                          clear A410
                          have H' := Aside0.mk H
                          clear H
                          have p334 : 0 ≤ ((ji36) : Int) := of_decide_eq_true (by first | (with_reducible assumption) | assumption)
                          have q334 : (ji36) < (l0.length : Int) := of_decide_eq_true (by first | (with_reducible assumption) | assumption)
                          obtain ⟨ad334, e334, hx334_0, hx334_1⟩ := at_T38 HR0.out (ji36) p334 q334
                          cases e334
                          replace hx334_0 := (HB.out.cell (World.block_lt_of_cell? w _ hx334_0)).trans hx334_0
                          replace hx334_1 := (HB.out.cell (World.block_lt_of_cell? w _ hx334_1)).trans hx334_1
                          replace p334 := eq_true p334
                          replace q334 := eq_true q334
                          go_wp2_with (first | (go_at_call 21; (with_reducible refine (leaps_Correction.calls k2 _ _ l0 t332 t335 _ ?side1 ?side2 A40.out).mono ?_); (case side1 => repeat (first | exact (Kd.C_below HR0.out HB.out) | (with_reducible refine Kd.C_alloc ?_ _) | (with_reducible refine Kd.C_drewN ?_ _) | (with_reducible refine Kd.C_drew ?_))); (case side2 => exact HC0.out); rintro e w42 ⟨rfl, hb⟩; have n0_ := Aside0.mk (below_step (by repeat (first | (with_reducible first | exact HB.out | apply below_alloc | apply pw_below_drewN | apply below_drew1) | exact HB.out)) hb); clear HB; have HB := n0_; clear n0_; (try clear hb); (try clear hb2); (try clear hk); (try clear hi)) | (go_at_call 21; (with_reducible refine (leaps_Correction.calls k2 _ _ l0 (wrap64 (t332 - 1)) t336 _ ?side1 ?side2 A41.out).mono ?_); (case side1 => repeat (first | exact (Kd.C_below HR0.out HB.out) | (with_reducible refine Kd.C_alloc ?_ _) | (with_reducible refine Kd.C_drewN ?_ _) | (with_reducible refine Kd.C_drew ?_))); (case side2 => exact HC0.out); rintro e w43 ⟨rfl, hb⟩; have n0_ := Aside0.mk (below_step (by repeat (first | (with_reducible first | exact HB.out | apply below_alloc | apply pw_below_drewN | apply below_drew1) | exact HB.out)) hb); clear HB; have HB := n0_; clear n0_; (try clear hb); (try clear hb2); (try clear hk); (try clear hi)))
                          go_meet
                          case rel => exact ⟨_, ((t335 != t336)), (by first | rfl | (simp; done) | (simp [*]; done)), H', ⟨by have := HJ2.out; have := HK2.out; first | omega | exact Nat.le_refl _⟩, ⟨by repeat (first | (with_reducible first | exact HB.out | apply below_alloc | apply pw_below_drewN | apply below_drew1) | exact HB.out)⟩⟩
                        · rw [if_neg c39] at H
                          have c39b0 : (t332 == ((rd_T38 l0 (ji36)).f0)) = false := beq_eq_false_iff_ne.mpr c39
                          have c39b1 : (t332 != ((rd_T38 l0 (ji36)).f0)) = true := bne_iff_ne.mpr c39
                          have H' := Aside0.mk H
                          clear H
                          have p334 : 0 ≤ ((ji36) : Int) := of_decide_eq_true (by first | (with_reducible assumption) | assumption)
                          have q334 : (ji36) < (l0.length : Int) := of_decide_eq_true (by first | (with_reducible assumption) | assumption)
                          obtain ⟨ad334, e334, hx334_0, hx334_1⟩ := at_T38 HR0.out (ji36) p334 q334
                          cases e334
                          replace hx334_0 := (HB.out.cell (World.block_lt_of_cell? w _ hx334_0)).trans hx334_0
                          replace hx334_1 := (HB.out.cell (World.block_lt_of_cell? w _ hx334_1)).trans hx334_1
                          replace p334 := eq_true p334
                          replace q334 := eq_true q334
                          go_wp2
                          go_meet
                          case rel => exact ⟨_, (true), (by first | rfl | (simp; done) | (simp [*]; done)), H', ⟨by have := HJ2.out; have := HK2.out; first | omega | exact Nat.le_refl _⟩, ⟨by repeat (first | (with_reducible first | exact HB.out | apply below_alloc | apply pw_below_drewN | apply below_drew1) | exact HB.out)⟩⟩
                      · rw [if_neg c38] at H
                        exact absurd H (by simp)
                    · rw [if_neg c37] at H
                      exact absurd H (by simp)
                · replace c34 := Bool.eq_false_iff.mpr c34
                  subst c34
                  have H1 : (zoneinfolaw17_LeapsCorrectionIsStep.j2 k2 l0 a1 false) = some r := by rw [if_neg (show ¬ (false = true) by decide)] at H; exact H
                  clear H
                  have H := H1
                  clear H1
                  have H' := Aside0.mk H
                  clear H
                  go_wp2
                  go_meet
                  case rel => exact ⟨_, (false), (by first | rfl | (simp; done) | (simp [*]; done)), H', ⟨by have := HJ2.out; have := HK2.out; first | omega | exact Nat.le_refl _⟩, ⟨by repeat (first | (with_reducible first | exact HB.out | apply below_alloc | apply pw_below_drewN | apply below_drew1) | exact HB.out)⟩⟩
              case rest =>
                clear HC33
                try clear c1
                try clear c2
                try clear p2
                try clear c3
                try clear p3
                try clear q3
                try clear hx3
                try clear c5
                try clear c6
                try clear c6b0
                try clear c6b1
                try clear p6
                try clear c7
                try clear c11
                try clear c14
                try clear c14b0
                try clear c15
                try clear c15b0
                try clear c17
                try clear c17b0
                try clear c17b1
                try clear c18
                try clear c18b0
                try clear c19
                try clear c20
                try clear c20b0
                try clear c21
                try clear c21b0
                try clear c23
                try clear c23b0
                try clear c23b1
                try clear c28
                try clear c28b0
                try clear c28b1
                try clear p32
                try clear q32
                try clear hx32
                try clear p33
                try clear q33
                try clear hx33
                try clear c34
                try clear c35
                try clear c35b0
                try clear c35b1
                try clear c37
                try clear c37b0
                try clear c38
                try clear c38b0
                try clear c39
                try clear c39b0
                try clear c39b1
                try clear hx324_0
                try clear hx324_1
                try clear hx326_0
                try clear hx326_1
                try clear hx327_0
                try clear hx327_1
                try clear hx328_0
                try clear hx328_1
                try clear hx330_0
                try clear hx330_1
                try clear hx334_0
                try clear hx334_1
                try clear p2
                try clear p324
                try clear p326
                try clear p327
                try clear p328
                try clear p330
                try clear p334
                try clear q324
                try clear q326
                try clear q327
                try clear q328
                try clear q330
                try clear q334
                obtain ⟨kq, x94_32, rfl, HA, HJ32, HB⟩ := hcut
                cases kq with
                | zero => exact absurd HA.out (by simp [zoneinfolaw17_LeapsCorrectionIsStep.j2])
                | succ kj32 =>
                  have H := HA.out
                  clear HA
                  simp only [zoneinfolaw17_LeapsCorrectionIsStep.j2] at H
                  by_cases c44 : x94_32 = true
                  · subst c44
                    have H1 : (none) = some r := by rw [if_pos rfl] at H; exact H
                    clear H
                    have H := H1
                    clear H1
                    exact absurd H (by simp)
                  · replace c44 := Bool.eq_false_iff.mpr c44
                    subst c44
                    have H1 : (zoneinfolaw17_LeapsCorrectionIsStep.l1 kj32 l0 a1 false 0) = some r := by rw [if_neg (show ¬ (false = true) by decide)] at H; exact H
                    clear H
                    have H := H1
                    clear H1
                    have H' := Aside0.mk H
                    clear H
                    go_wp2
                    go_loopg [9, 10] kj32 (fun kq v9 v10 w' => ∃ (x9_4 : Bool) (x10_4 : Int), v9 = .bool x9_4 ∧ v10 = .int .i64 x10_4 ∧ Aside0 (zoneinfolaw17_LeapsCorrectionIsStep.l1 kq l0 a1 x9_4 x10_4 = some r) ∧ Aside0 (kq ≤ kj32) ∧ Aside0 (Below w.heap.size w w'))
                    case atStart => exact ⟨(false), (0), (by first | rfl | (simp; done) | (simp [*]; done)), (by first | rfl | (simp; done) | (simp [*]; done)), H', ⟨Nat.le_refl _⟩, ⟨by repeat (first | (with_reducible first | exact HB.out | apply below_alloc | apply pw_below_drewN | apply below_drew1) | exact HB.out)⟩⟩
                    case round =>
                      clear H'
                      try clear c1
                      try clear c2
                      try clear p2
                      try clear c3
                      try clear p3
                      try clear q3
                      try clear hx3
                      try clear c4
                      try clear c5
                      try clear c6
                      try clear c6b0
                      try clear c6b1
                      try clear p6
                      try clear c7
                      try clear c11
                      try clear c14
                      try clear c14b0
                      try clear c15
                      try clear c15b0
                      try clear c17
                      try clear c17b0
                      try clear c17b1
                      try clear c18
                      try clear c18b0
                      try clear c19
                      try clear c20
                      try clear c20b0
                      try clear c21
                      try clear c21b0
                      try clear c23
                      try clear c23b0
                      try clear c23b1
                      try clear c28
                      try clear c28b0
                      try clear c28b1
                      try clear p32
                      try clear q32
                      try clear hx32
                      try clear p33
                      try clear q33
                      try clear hx33
                      try clear c34
                      try clear c35
                      try clear c35b0
                      try clear c35b1
                      try clear c37
                      try clear c37b0
                      try clear c38
                      try clear c38b0
                      try clear c39
                      try clear c39b0
                      try clear c39b1
                      try clear c44
                      try clear hx324_0
                      try clear hx324_1
                      try clear hx326_0
                      try clear hx326_1
                      try clear hx327_0
                      try clear hx327_1
                      try clear hx328_0
                      try clear hx328_1
                      try clear hx330_0
                      try clear hx330_1
                      try clear hx334_0
                      try clear hx334_1
                      try clear p2
                      try clear p3
                      try clear p32
                      try clear p324
                      try clear p326
                      try clear p327
                      try clear p328
                      try clear p33
                      try clear p330
                      try clear p334
                      try clear p6
                      try clear q3
                      try clear q32
                      try clear q324
                      try clear q326
                      try clear q327
                      try clear q328
                      try clear q33
                      try clear q330
                      try clear q334
                      obtain ⟨x9_4, x10_4, rfl, rfl, HA, HK4, HB⟩ := hrel
                      cases gk with
                      | zero => exact absurd HA.out (by simp [zoneinfolaw17_LeapsCorrectionIsStep.l1])
                      | succ k4 =>
                        have H := HA.out
                        clear HA
                        simp only [zoneinfolaw17_LeapsCorrectionIsStep.l1] at H
                        by_cases c45 : x10_4 < (l0.length : Int)
                        · rw [if_pos c45] at H
                          have c45b0 : decide (x10_4 < (l0.length : Int)) = true := decide_eq_true c45
                          clear c45
                          by_cases c46 : x9_4 = true
                          · subst c46
                            have H1 : (zoneinfolaw17_LeapsCorrectionIsStep.l1 k4 l0 a1 true (wrap64 (x10_4 + 1))) = some r := by rw [if_pos rfl] at H; exact H
                            clear H
                            have H := H1
                            clear H1
                            have H' := Aside0.mk H
                            clear H
                            go_wp2
                            go_roundg k4
                            case measure => have := HJ2.out; have := HK2.out; have := HJ32.out; have := HK4.out; omega
                            case rel => exact ⟨(true), (wrap64 (x10_4 + 1)), (by first | rfl | (simp; done) | (simp [*]; done)), (by first | rfl | (simp; done) | (simp [*]; done)), H', ⟨by have := HJ2.out; have := HK2.out; have := HJ32.out; have := HK4.out; omega⟩, ⟨by repeat (first | (with_reducible first | exact HB.out | apply below_alloc | apply pw_below_drewN | apply below_drew1) | exact HB.out)⟩⟩
                          · replace c46 := Bool.eq_false_iff.mpr c46
                            subst c46
                            have H1 : (if 0 ≤ x10_4 then (zoneinfolaw17_LeapsCorrectionIsStep.l1 k4 l0 a1 (((rd_T38 l0 x10_4).f0) == a1) (wrap64 (x10_4 + 1))) else (none)) = some r := by rw [if_neg (show ¬ (false = true) by decide)] at H; exact H
                            clear H
                            have H := H1
                            clear H1
                            by_cases c47 : 0 ≤ x10_4
                            · rw [if_pos c47] at H
                              have c47b0 : decide (0 ≤ x10_4) = true := decide_eq_true c47
                              clear c47
                              have H' := Aside0.mk H
                              clear H
                              have p337 : 0 ≤ (x10_4 : Int) := of_decide_eq_true (by first | (with_reducible assumption) | assumption)
                              have q337 : x10_4 < (l0.length : Int) := of_decide_eq_true (by first | (with_reducible assumption) | assumption)
                              obtain ⟨ad337, e337, hx337_0, hx337_1⟩ := at_T38 HR0.out x10_4 p337 q337
                              cases e337
                              replace hx337_0 := (HB.out.cell (World.block_lt_of_cell? w _ hx337_0)).trans hx337_0
                              replace hx337_1 := (HB.out.cell (World.block_lt_of_cell? w _ hx337_1)).trans hx337_1
                              replace p337 := eq_true p337
                              replace q337 := eq_true q337
                              go_wp2
                              go_roundg k4
                              case measure => have := HJ2.out; have := HK2.out; have := HJ32.out; have := HK4.out; omega
                              case rel => exact ⟨((((rd_T38 l0 x10_4).f0) == a1)), (wrap64 (x10_4 + 1)), (by first | rfl | (simp; done) | (simp [*]; done)), (by first | rfl | (simp; done) | (simp [*]; done)), H', ⟨by have := HJ2.out; have := HK2.out; have := HJ32.out; have := HK4.out; omega⟩, ⟨by repeat (first | (with_reducible first | exact HB.out | apply below_alloc | apply pw_below_drewN | apply below_drew1) | exact HB.out)⟩⟩
                            · rw [if_neg c47] at H
                              exact absurd H (by simp)
                        · rw [if_neg c45] at H
                          have c45b0 : decide (x10_4 < (l0.length : Int)) = false := decide_eq_false c45
                          clear c45
                          by_cases c48 : x9_4 = true
                          · subst c48
                            have H1 : (some true) = some r := by rw [if_pos rfl] at H; exact H
                            clear H
                            have H := H1
                            clear H1
                            obtain rfl := Option.some.inj H
                            go_wp2
                            go_ret
                            exact ⟨by first | rfl | (simp [errW_none, errW_some] <;> rfl) | (simp [*, errW_none, errW_some] <;> rfl), by repeat (first | (with_reducible first | exact HB.out | apply below_alloc | apply pw_below_drewN | apply below_drew1) | exact HB.out)⟩
                          · replace c48 := Bool.eq_false_iff.mpr c48
                            subst c48
                            have H1 : (if a1 = (-9223372036854775808) then (some true) else ((leaps_Correction.f k4 l0 a1).bind fun t338 => ((leaps_Correction.f k4 l0 (wrap64 (a1 - 1))).bind fun t339 => (some (t338 == t339))))) = some r := by rw [if_neg (show ¬ (false = true) by decide)] at H; exact H
                            clear H
                            have H := H1
                            clear H1
                            by_cases c49 : a1 = (-9223372036854775808)
                            · rw [if_pos c49] at H
                              have c49b0 : (a1 == (-9223372036854775808)) = true := beq_iff_eq.mpr c49
                              have c49b1 : (a1 != (-9223372036854775808)) = false := bne_eq_false_iff_eq.mpr c49
                              clear c49
                              obtain rfl := Option.some.inj H
                              go_wp2
                              go_ret
                              exact ⟨by first | rfl | (simp [errW_none, errW_some] <;> rfl) | (simp [*, errW_none, errW_some] <;> rfl), by repeat (first | (with_reducible first | exact HB.out | apply below_alloc | apply pw_below_drewN | apply below_drew1) | exact HB.out)⟩
                            · rw [if_neg c49] at H
                              have c49b0 : (a1 == (-9223372036854775808)) = false := beq_eq_false_iff_ne.mpr c49
                              have c49b1 : (a1 != (-9223372036854775808)) = true := bne_iff_ne.mpr c49
                              replace H := Option.bind_eq_some_iff.mp H
                              obtain ⟨t338, A500, H⟩ := H
                              replace H : ((leaps_Correction.f k4 l0 (wrap64 (a1 - 1))).bind fun t339 => (some (t338 == t339))) = some r := H
                              have A50 := Aside0.mk A500
                              clear A500
                              replace H := Option.bind_eq_some_iff.mp H
                              obtain ⟨t339, A510, H⟩ := H
                              replace H : (some (t338 == t339)) = some r := H
                              have A51 := Aside0.mk A510
                              clear A510
                              obtain rfl := Option.some.inj H
                              go_wp2_with (first | (go_at_call 21; (with_reducible refine (leaps_Correction.calls k4 _ _ l0 a1 t338 _ ?side1 ?side2 A50.out).mono ?_); (case side1 => repeat (first | exact (Kd.C_below HR0.out HB.out) | (with_reducible refine Kd.C_alloc ?_ _) | (with_reducible refine Kd.C_drewN ?_ _) | (with_reducible refine Kd.C_drew ?_))); (case side2 => exact HC0.out); rintro e w52 ⟨rfl, hb⟩; have n0_ := Aside0.mk (below_step (by repeat (first | (with_reducible first | exact HB.out | apply below_alloc | apply pw_below_drewN | apply below_drew1) | exact HB.out)) hb); clear HB; have HB := n0_; clear n0_; (try clear hb); (try clear hb2); (try clear hk); (try clear hi)) | (go_at_call 21; (with_reducible refine (leaps_Correction.calls k4 _ _ l0 (wrap64 (a1 - 1)) t339 _ ?side1 ?side2 A51.out).mono ?_); (case side1 => repeat (first | exact (Kd.C_below HR0.out HB.out) | (with_reducible refine Kd.C_alloc ?_ _) | (with_reducible refine Kd.C_drewN ?_ _) | (with_reducible refine Kd.C_drew ?_))); (case side2 => exact HC0.out); rintro e w53 ⟨rfl, hb⟩; have n0_ := Aside0.mk (below_step (by repeat (first | (with_reducible first | exact HB.out | apply below_alloc | apply pw_below_drewN | apply below_drew1) | exact HB.out)) hb); clear HB; have HB := n0_; clear n0_; (try clear hb); (try clear hb2); (try clear hk); (try clear hi)))
                              go_ret
                              exact ⟨by first | rfl | (simp [errW_none, errW_some] <;> rfl) | (simp [*, errW_none, errW_some] <;> rfl), by repeat (first | (with_reducible first | exact HB.out | apply below_alloc | apply pw_below_drewN | apply below_drew1) | exact HB.out)⟩

end Go.Proofs.YtiaobffdggeofaaDoor.G
