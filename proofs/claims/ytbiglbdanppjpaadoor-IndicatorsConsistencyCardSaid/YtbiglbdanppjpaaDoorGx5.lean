/- Written by a program of this session for this seat: contracts of the functions that its laws reach, or the row of a law over its plain part. -/
import Derived.Test.YtbiglbdanppjpaaDoorGx0
import Derived.Test.YtbiglbdanppjpaaDoorGx1
import Derived.Test.YtbiglbdanppjpaaDoorGx2
import Derived.Test.YtbiglbdanppjpaaDoorGx3
namespace Go.Proofs.YtbiglbdanppjpaaDoor.G
open Go.RowKit Go.Proofs.YtbiglbdanppjpaaDoorW.PrintWords Go.Proofs.YtbiglbdanppjpaaDoorW.PrintLast Go.Proofs.YtbiglbdanppjpaaDoorW.PrintMore
attribute [local go_sem] max2_int min2_int max_two min_two max_three min_three max_four min_four   -- for this text's walks alone
set_option linter.unusedVariables false
set_option linter.unusedSimpArgs false

/-! ### zoneinfolaw18_IndicatorsConsistency: function 5 -/
mutual
def zoneinfolaw18_IndicatorsConsistency.j0 : Nat → List Bool → List Bool → Int → Bool → Option (Bool)
  | 0, _, _, _, _ => none
  | k + 1, x0, x1, x2, x21 => if x21 = true then ((zoneinfolaw18_awake.f k).bind fun t222 => (some t222)) else (if 0 ≤ (x1.length : Int) then (if ((x1.length : Int) : Int).toNat ≤ 281474976710656 then ((indicators_Consistent.f k x1 x1).bind fun t226 => (if t226 = true then ((indicators_Consistent.f k x0 (List.replicate ((x1.length : Int) : Int).toNat false)).bind fun t227 => (if t227 = true then ((indicators_Consistent.f k x0 ([] : List Bool)).bind fun t228 => (zoneinfolaw18_IndicatorsConsistency.j1 k x0 x1 x2 (!t228))) else (zoneinfolaw18_IndicatorsConsistency.j1 k x0 x1 x2 true))) else (zoneinfolaw18_IndicatorsConsistency.j1 k x0 x1 x2 true))) else (none)) else (none))
def zoneinfolaw18_IndicatorsConsistency.j1 : Nat → List Bool → List Bool → Int → Bool → Option (Bool)
  | 0, _, _, _, _ => none
  | k + 1, x0, x1, x2, x40 => if x40 = true then (none) else ((indicators_Consistent.f k x0 x1).bind fun t229 => (if t229 = true then ((some (([] : List Bool) : List Bool)).bind fun y230 => (if y230.length + x0.length < 140737488355328 then ((some (y230 ++ x0 : List Bool)).bind fun y233 => (if (y233.length : Int) > 0 then (if (y233.length : Int) = 0 then (none) else (if 0 ≤ (Int.tmod (wrap64 (x2)) (y233.length : Int)) then (if (Int.tmod (wrap64 (x2)) (y233.length : Int)) < (y233.length : Int) then (zoneinfolaw18_IndicatorsConsistency.j2 k x0 x1 x2 (y233.set ((Int.tmod (wrap64 (x2)) (y233.length : Int)) : Int).toNat true)) else (none)) else (none))) else (zoneinfolaw18_IndicatorsConsistency.j2 k x0 x1 x2 y233))) else (none))) else (some true)))
def zoneinfolaw18_IndicatorsConsistency.j2 : Nat → List Bool → List Bool → Int → List Bool → Option (Bool)
  | 0, _, _, _, _ => none
  | k + 1, x0, x1, x2, x8 => (some (([] : List Bool) : List Bool)).bind fun y237 => (if y237.length + x1.length < 140737488355328 then ((some (y237 ++ x1 : List Bool)).bind fun y240 => (if (y240.length : Int) > 0 then (if (y240.length : Int) = 0 then (none) else (if 0 ≤ (Int.tmod (wrap64 (x2)) (y240.length : Int)) then (if (Int.tmod (wrap64 (x2)) (y240.length : Int)) < (y240.length : Int) then ((indicators_Consistent.f k x8 x1).bind fun t244 => (if t244 = true then ((indicators_Consistent.f k x0 (y240.set ((Int.tmod (wrap64 (x2)) (y240.length : Int)) : Int).toNat false)).bind fun t245 => (if t245 = true then (if x8.length < 140737488355328 then ((indicators_Consistent.f k (x8 ++ [false]) x1).bind fun t249 => (some t249)) else (none)) else (none))) else (none))) else (none)) else (none))) else ((indicators_Consistent.f k x8 x1).bind fun t250 => (if t250 = true then ((indicators_Consistent.f k x0 y240).bind fun t251 => (if t251 = true then (if x8.length < 140737488355328 then ((indicators_Consistent.f k (x8 ++ [false]) x1).bind fun t255 => (some t255)) else (none)) else (none))) else (none))))) else (none))
end
def zoneinfolaw18_IndicatorsConsistency.f (k : Nat) (l0 : List Bool) (l1 : List Bool) (a2 : Int) : Option (Bool) := (zoneinfolaw18_awake.f k).bind fun t221 => (if t221 = true then (if (l0.length : Int) > 1000 then (zoneinfolaw18_IndicatorsConsistency.j0 k l0 l1 a2 true) else (zoneinfolaw18_IndicatorsConsistency.j0 k l0 l1 a2 (decide ((l1.length : Int) > 1000)))) else (zoneinfolaw18_IndicatorsConsistency.j0 k l0 l1 a2 true))
theorem zoneinfolaw18_IndicatorsConsistency.mono_l : ∀ k, (∀ y0 y1 y2 y3, LeO (zoneinfolaw18_IndicatorsConsistency.j0 k y0 y1 y2 y3) (zoneinfolaw18_IndicatorsConsistency.j0 (k + 1) y0 y1 y2 y3)) ∧ (∀ y0 y1 y2 y3, LeO (zoneinfolaw18_IndicatorsConsistency.j1 k y0 y1 y2 y3) (zoneinfolaw18_IndicatorsConsistency.j1 (k + 1) y0 y1 y2 y3)) ∧ (∀ y0 y1 y2 y3, LeO (zoneinfolaw18_IndicatorsConsistency.j2 k y0 y1 y2 y3) (zoneinfolaw18_IndicatorsConsistency.j2 (k + 1) y0 y1 y2 y3))
  | 0 => ⟨fun _ _ _ _ r h => by simp [zoneinfolaw18_IndicatorsConsistency.j0] at h, fun _ _ _ _ r h => by simp [zoneinfolaw18_IndicatorsConsistency.j1] at h, fun _ _ _ _ r h => by simp [zoneinfolaw18_IndicatorsConsistency.j2] at h⟩
  | k + 1 => by
    obtain ⟨ih0, ih1, ih2⟩ := zoneinfolaw18_IndicatorsConsistency.mono_l k
    refine ⟨?_, ?_, ?_⟩
    · intro y0 y1 y2 y3
      unfold zoneinfolaw18_IndicatorsConsistency.j0
      repeat' first
      | (with_reducible exact ih0 _ _ _ _)
      | (with_reducible exact ih1 _ _ _ _)
      | (with_reducible exact ih2 _ _ _ _)
      | (with_reducible exact indicators_Consistent.mono _ _ _)
      | (with_reducible exact zoneinfolaw18_awake.mono _)
      | (with_reducible exact LeO.refl _)
      | (with_reducible exact LeO.none _)
      | (with_reducible refine LeO.ite ?_ ?_)
      | (with_reducible refine LeO.bind ?_ (fun _ => ?_))
      | exact ih0 _ _ _ _
      | exact ih1 _ _ _ _
      | exact ih2 _ _ _ _
      | exact indicators_Consistent.mono _ _ _
      | exact zoneinfolaw18_awake.mono _
      | exact LeO.none _
      | refine LeO.ite ?_ ?_
      | refine LeO.bind ?_ (fun _ => ?_)
    · intro y0 y1 y2 y3
      unfold zoneinfolaw18_IndicatorsConsistency.j1
      repeat' first
      | (with_reducible exact ih0 _ _ _ _)
      | (with_reducible exact ih1 _ _ _ _)
      | (with_reducible exact ih2 _ _ _ _)
      | (with_reducible exact indicators_Consistent.mono _ _ _)
      | (with_reducible exact zoneinfolaw18_awake.mono _)
      | (with_reducible exact LeO.refl _)
      | (with_reducible exact LeO.none _)
      | (with_reducible refine LeO.ite ?_ ?_)
      | (with_reducible refine LeO.bind ?_ (fun _ => ?_))
      | exact ih0 _ _ _ _
      | exact ih1 _ _ _ _
      | exact ih2 _ _ _ _
      | exact indicators_Consistent.mono _ _ _
      | exact zoneinfolaw18_awake.mono _
      | exact LeO.none _
      | refine LeO.ite ?_ ?_
      | refine LeO.bind ?_ (fun _ => ?_)
    · intro y0 y1 y2 y3
      unfold zoneinfolaw18_IndicatorsConsistency.j2
      repeat' first
      | (with_reducible exact ih0 _ _ _ _)
      | (with_reducible exact ih1 _ _ _ _)
      | (with_reducible exact ih2 _ _ _ _)
      | (with_reducible exact indicators_Consistent.mono _ _ _)
      | (with_reducible exact zoneinfolaw18_awake.mono _)
      | (with_reducible exact LeO.refl _)
      | (with_reducible exact LeO.none _)
      | (with_reducible refine LeO.ite ?_ ?_)
      | (with_reducible refine LeO.bind ?_ (fun _ => ?_))
      | exact ih0 _ _ _ _
      | exact ih1 _ _ _ _
      | exact ih2 _ _ _ _
      | exact indicators_Consistent.mono _ _ _
      | exact zoneinfolaw18_awake.mono _
      | exact LeO.none _
      | refine LeO.ite ?_ ?_
      | refine LeO.bind ?_ (fun _ => ?_)
theorem zoneinfolaw18_IndicatorsConsistency.mono : ∀ a0 a1 a2 k, LeO (zoneinfolaw18_IndicatorsConsistency.f k a0 a1 a2) (zoneinfolaw18_IndicatorsConsistency.f (k + 1) a0 a1 a2) := by
  intro a0 a1 a2 k
  obtain ⟨ih0, ih1, ih2⟩ := zoneinfolaw18_IndicatorsConsistency.mono_l k
  unfold zoneinfolaw18_IndicatorsConsistency.f
  repeat' first
      | (with_reducible exact ih0 _ _ _ _)
      | (with_reducible exact ih1 _ _ _ _)
      | (with_reducible exact ih2 _ _ _ _)
      | (with_reducible exact indicators_Consistent.mono _ _ _)
      | (with_reducible exact zoneinfolaw18_awake.mono _)
      | (with_reducible exact LeO.refl _)
      | (with_reducible exact LeO.none _)
      | (with_reducible refine LeO.ite ?_ ?_)
      | (with_reducible refine LeO.bind ?_ (fun _ => ?_))
      | exact ih0 _ _ _ _
      | exact ih1 _ _ _ _
      | exact ih2 _ _ _ _
      | exact indicators_Consistent.mono _ _ _
      | exact zoneinfolaw18_awake.mono _
      | exact LeO.none _
      | refine LeO.ite ?_ ?_
      | refine LeO.bind ?_ (fun _ => ?_)
set_option maxHeartbeats 8000000 in
set_option maxRecDepth 100000 in
theorem zoneinfolaw18_IndicatorsConsistency.calls (k : Nat) (A0 : Option Addr) (c0 : Nat) (l0 : List Bool) (A1 : Option Addr) (c1 : Nat) (l1 : List Bool) (a2 : Int) (r : Bool) (w : World) (hr0 : Kd.C Kd.bool w A0 l0.length l0) (hc0 : l0.length ≤ c0) (hr1 : Kd.C Kd.bool w A1 l1.length l1) (hc1 : l1.length ≤ c1) (hrg : GL w) (h : zoneinfolaw18_IndicatorsConsistency.f k l0 l1 a2 = some r) :
    Calls Tryd.prog 5 #[.slice A0 l0.length c0, .slice A1 l1.length c1, .int .u16 a2] w fun e w' => e = .returned (.bool r) ∧ Below w.heap.size w w' := by
  have HRg := Aside0.mk hrg
  clear hrg
  have HR0 := Aside0.mk hr0
  have HC0 := Aside0.mk hc0
  clear hr0 hc0
  have HR1 := Aside0.mk hr1
  have HC1 := Aside0.mk hc1
  clear hr1 hc1
  have HB := Aside0.mk (Below.refl w.heap.size w)
  have H : ((zoneinfolaw18_awake.f k).bind fun t221 => (if t221 = true then (if (l0.length : Int) > 1000 then (zoneinfolaw18_IndicatorsConsistency.j0 k l0 l1 a2 true) else (zoneinfolaw18_IndicatorsConsistency.j0 k l0 l1 a2 (decide ((l1.length : Int) > 1000)))) else (zoneinfolaw18_IndicatorsConsistency.j0 k l0 l1 a2 true))) = some r := h
  clear h
  have HC4 := Aside0.mk H
  clear H
  go_enter Tryd.func5, Tryd.ntmps5
  go_upto_region 1 with (fail)
  go_cut [21] (fun v21 wc => ∃ (kq : Nat) (x21_3 : Bool), v21 = .bool x21_3 ∧ Aside0 (zoneinfolaw18_IndicatorsConsistency.j0 kq l0 l1 a2 x21_3 = some r) ∧ Aside0 (kq ≤ k) ∧ Aside0 (Below w.heap.size w wc))
  case first =>
    have H := HC4.out
    clear HC4
    replace H := Option.bind_eq_some_iff.mp H
    obtain ⟨t221, A50, H⟩ := H
    replace H : (if t221 = true then (if (l0.length : Int) > 1000 then (zoneinfolaw18_IndicatorsConsistency.j0 k l0 l1 a2 true) else (zoneinfolaw18_IndicatorsConsistency.j0 k l0 l1 a2 (decide ((l1.length : Int) > 1000)))) else (zoneinfolaw18_IndicatorsConsistency.j0 k l0 l1 a2 true)) = some r := H
    have A5 := Aside0.mk A50
    clear A50
    by_cases c6 : t221 = true
    · subst c6
      have H1 : (if (l0.length : Int) > 1000 then (zoneinfolaw18_IndicatorsConsistency.j0 k l0 l1 a2 true) else (zoneinfolaw18_IndicatorsConsistency.j0 k l0 l1 a2 (decide ((l1.length : Int) > 1000)))) = some r := by rw [if_pos rfl] at H; exact H
      clear H
      have H := H1
      clear H1
      by_cases c7 : (l0.length : Int) > 1000
      · rw [if_pos c7] at H
        have c7b0 : decide (1000 < (l0.length : Int)) = true := decide_eq_true c7
        have c7b1 : decide (1000 < l0.length) = true := decide_eq_true (by omega)
        clear c7
        (first | rw [c7b0] | (simp only [i64_w, i32_w]; rw [c7b0]) | skip)
        have H' := Aside0.mk H
        clear H
        go_wp2_with (first | (go_at_call 7; (with_reducible refine (zoneinfolaw18_awake.calls k  true _ ?side1 A5.out).mono ?_); (case side1 => repeat (first | exact (Kd.C_below HRg.out HB.out) | (with_reducible refine Kd.C_alloc ?_ _) | (with_reducible refine Kd.C_drewN ?_ _) | (with_reducible refine Kd.C_drew ?_))); rintro e w8 ⟨rfl, hb⟩; have n0_ := Aside0.mk (below_step (by repeat (first | (with_reducible first | exact HB.out | apply below_alloc | apply pw_below_drewN | apply below_drew1) | exact HB.out)) hb); clear HB; have HB := n0_; clear n0_; (try clear hb); (try clear hb2); (try clear hk); (try clear hi)))
        go_meet
        case rel => exact ⟨_, (true), (by first | rfl | (simp; done) | (simp [*]; done)), H', ⟨by first | omega | exact Nat.le_refl _⟩, ⟨by repeat (first | (with_reducible first | exact HB.out | apply below_alloc | apply pw_below_drewN | apply below_drew1) | exact HB.out)⟩⟩
      · rw [if_neg c7] at H
        have c7b0 : decide (1000 < (l0.length : Int)) = false := decide_eq_false c7
        have c7b1 : decide (1000 < l0.length) = false := decide_eq_false (by omega)
        clear c7
        (first | rw [c7b0] | (simp only [i64_w, i32_w]; rw [c7b0]) | skip)
        have H' := Aside0.mk H
        clear H
        go_wp2_with (first | (go_at_call 7; (with_reducible refine (zoneinfolaw18_awake.calls k  true _ ?side1 A5.out).mono ?_); (case side1 => repeat (first | exact (Kd.C_below HRg.out HB.out) | (with_reducible refine Kd.C_alloc ?_ _) | (with_reducible refine Kd.C_drewN ?_ _) | (with_reducible refine Kd.C_drew ?_))); rintro e w9 ⟨rfl, hb⟩; have n0_ := Aside0.mk (below_step (by repeat (first | (with_reducible first | exact HB.out | apply below_alloc | apply pw_below_drewN | apply below_drew1) | exact HB.out)) hb); clear HB; have HB := n0_; clear n0_; (try clear hb); (try clear hb2); (try clear hk); (try clear hi)))
        go_meet
        case rel => exact ⟨_, (decide ((l1.length : Int) > 1000)), (by first | rfl | (simp; done) | (simp [*]; done)), H', ⟨by first | omega | exact Nat.le_refl _⟩, ⟨by repeat (first | (with_reducible first | exact HB.out | apply below_alloc | apply pw_below_drewN | apply below_drew1) | exact HB.out)⟩⟩
    · replace c6 := Bool.eq_false_iff.mpr c6
      subst c6
      have H1 : (zoneinfolaw18_IndicatorsConsistency.j0 k l0 l1 a2 true) = some r := by rw [if_neg (show ¬ (false = true) by decide)] at H; exact H
      clear H
      have H := H1
      clear H1
      have H' := Aside0.mk H
      clear H
      go_wp2_with (first | (go_at_call 7; (with_reducible refine (zoneinfolaw18_awake.calls k  false _ ?side1 A5.out).mono ?_); (case side1 => repeat (first | exact (Kd.C_below HRg.out HB.out) | (with_reducible refine Kd.C_alloc ?_ _) | (with_reducible refine Kd.C_drewN ?_ _) | (with_reducible refine Kd.C_drew ?_))); rintro e w10 ⟨rfl, hb⟩; have n0_ := Aside0.mk (below_step (by repeat (first | (with_reducible first | exact HB.out | apply below_alloc | apply pw_below_drewN | apply below_drew1) | exact HB.out)) hb); clear HB; have HB := n0_; clear n0_; (try clear hb); (try clear hb2); (try clear hk); (try clear hi)))
      go_meet
      case rel => exact ⟨_, (true), (by first | rfl | (simp; done) | (simp [*]; done)), H', ⟨by first | omega | exact Nat.le_refl _⟩, ⟨by repeat (first | (with_reducible first | exact HB.out | apply below_alloc | apply pw_below_drewN | apply below_drew1) | exact HB.out)⟩⟩
  case rest =>
    clear HC4
    try clear c1
    try clear p2
    try clear c5
    try clear c6
    try clear c7
    try clear c7b0
    try clear c7b1
    obtain ⟨kq, x21_3, rfl, HA, HJ3, HB⟩ := hcut
    cases kq with
    | zero => exact absurd HA.out (by simp [zoneinfolaw18_IndicatorsConsistency.j0])
    | succ kj3 =>
      have H := HA.out
      clear HA
      simp only [zoneinfolaw18_IndicatorsConsistency.j0] at H
      by_cases c11 : x21_3 = true
      · subst c11
        have H1 : ((zoneinfolaw18_awake.f kj3).bind fun t222 => (some t222)) = some r := by rw [if_pos rfl] at H; exact H
        clear H
        have H := H1
        clear H1
        replace H := Option.bind_eq_some_iff.mp H
        obtain ⟨t222, A120, H⟩ := H
        replace H : (some t222) = some r := H
        have A12 := Aside0.mk A120
        clear A120
        obtain rfl := Option.some.inj H
        go_wp2_with (first | ((with_reducible refine gate_callee (f := 7) rfl ?_); refine goesL_ (some 22) rfl rfl Tryd.func7 (by kernel_rfl) rfl #[] rfl (by (try simp only [List.map_toArray, List.map_cons, List.map_nil]); first | done | rfl | (simp only [List.length_drop, List.length_take]; rfl)) ?_; (with_reducible refine (zoneinfolaw18_awake.calls kj3  t222 _ ?side1 A12.out).mono ?_); (case side1 => repeat (first | exact (Kd.C_below HRg.out HB.out) | (with_reducible refine Kd.C_alloc ?_ _) | (with_reducible refine Kd.C_drewN ?_ _) | (with_reducible refine Kd.C_drew ?_))); rintro e w13 ⟨rfl, hb⟩; refine ⟨_, rfl, ?_⟩; have n0_ := Aside0.mk (below_step (by repeat (first | (with_reducible first | exact HB.out | apply below_alloc | apply pw_below_drewN | apply below_drew1) | exact HB.out)) hb); clear HB; have HB := n0_; clear n0_; (try clear hb); (try clear hb2); (try clear hk); (try clear hi)))
        go_ret
        exact ⟨by first | rfl | (simp [errW_none, errW_some] <;> rfl) | (simp [*, errW_none, errW_some] <;> rfl), by repeat (first | (with_reducible first | exact HB.out | apply below_alloc | apply pw_below_drewN | apply below_drew1) | exact HB.out)⟩
      · replace c11 := Bool.eq_false_iff.mpr c11
        subst c11
        have H1 : (if 0 ≤ (l1.length : Int) then (if ((l1.length : Int) : Int).toNat ≤ 281474976710656 then ((indicators_Consistent.f kj3 l1 l1).bind fun t226 => (if t226 = true then ((indicators_Consistent.f kj3 l0 (List.replicate ((l1.length : Int) : Int).toNat false)).bind fun t227 => (if t227 = true then ((indicators_Consistent.f kj3 l0 ([] : List Bool)).bind fun t228 => (zoneinfolaw18_IndicatorsConsistency.j1 kj3 l0 l1 a2 (!t228))) else (zoneinfolaw18_IndicatorsConsistency.j1 kj3 l0 l1 a2 true))) else (zoneinfolaw18_IndicatorsConsistency.j1 kj3 l0 l1 a2 true))) else (none)) else (none)) = some r := by rw [if_neg (show ¬ (false = true) by decide)] at H; exact H
        clear H
        have H := H1
        clear H1
        by_cases c14 : 0 ≤ (l1.length : Int)
        · rw [if_pos c14] at H
          have c14b0 := eq_true c14
          have c14b1 : decide (0 ≤ (l1.length : Int)) = true := decide_eq_true c14
          clear c14
          by_cases c15 : ((l1.length : Int) : Int).toNat ≤ 281474976710656
          · rw [if_pos c15] at H
            have c15b0 := eq_true c15
            have c15b1 : decide (((l1.length : Int) : Int).toNat ≤ 281474976710656) = true := decide_eq_true c15
            clear c15
            obtain ⟨y223, hy223⟩ : ∃ y_ : List Bool, y_ = (List.replicate ((l1.length : Int) : Int).toNat false) := ⟨_, rfl⟩
            replace H : ((indicators_Consistent.f kj3 l1 l1).bind fun t226 => (if t226 = true then ((indicators_Consistent.f kj3 l0 y223).bind fun t227 => (if t227 = true then ((indicators_Consistent.f kj3 l0 ([] : List Bool)).bind fun t228 => (zoneinfolaw18_IndicatorsConsistency.j1 kj3 l0 l1 a2 (!t228))) else (zoneinfolaw18_IndicatorsConsistency.j1 kj3 l0 l1 a2 true))) else (zoneinfolaw18_IndicatorsConsistency.j1 kj3 l0 l1 a2 true))) = some r := by first | (rw [hy223]; with_reducible exact H) | (have H2_ := (Option.bind_some _ _).symm.trans H; rw [hy223]; with_reducible exact H2_) | (have H2_ := (Option.bind_some _ _).symm.trans H; with_reducible exact H2_) | with_reducible exact H | (rw [hy223]; exact H) | exact H
            have Ny223 := Aside0.mk hy223
            clear hy223
            have HC16 := Aside0.mk H
            clear H
            go_upto_region 4 with (first | ((with_reducible refine gate_dst (N := 25) rfl ?_); (try (refine gate_guard (by rfl) ?_; dsimp only)); refine Kd.R_make Kd.bool _ 4 rfl (N := 25) rfl 23 _ _ rfl (l1.length : Int) rfl rfl Tryd.underlying23 (.bool false) 1 info4 rfl (by decide) (by omega) false (ok := fun _ => True) (okp := fun _ => True) rfl (fun _ hk => hk) trivial (of_decide_eq_true (by first | (with_reducible assumption) | assumption)) (Nat.le_trans (Nat.mul_le_mul_right _ (of_decide_eq_true (by first | (with_reducible assumption) | assumption) : (l1.length : Int).toNat ≤ 281474976710656)) (by omega)) (Below.refl _ _) (Nat.le_refl _) ?_; intro v224 w17 ho18 hb hg_ hnew_; clear hg_ hnew_; (first | rw [← Ny223.out] at ho18 | (simp only [Int.reduceToNat] at ho18; rw [← Ny223.out] at ho18)); have n0_ := Aside0.mk (Kd.R_lower ho18 (below_size (by repeat (first | (with_reducible first | exact HB.out | apply below_alloc | apply pw_below_drewN | apply below_drew1) | exact HB.out)))); have n1_ := Aside0.mk (below_step (by repeat (first | (with_reducible first | exact HB.out | apply below_alloc | apply pw_below_drewN | apply below_drew1) | exact HB.out)) hb); clear HB; have HO225 := n0_; have HB := n1_; clear n0_ n1_; clear hb ho18))
            (try simp only [Act.put, List.setIfInBounds_toArray, List.set_cons_zero, List.set_cons_succ])
            go_cut [40] (fun v40 wc => ∃ (kq : Nat) (x40_15 : Bool), v40 = .bool x40_15 ∧ Aside0 (zoneinfolaw18_IndicatorsConsistency.j1 kq l0 l1 a2 x40_15 = some r) ∧ Aside0 (kq ≤ kj3) ∧ Aside0 (Below w.heap.size w wc))
            case first =>
              have H := HC16.out
              clear HC16
              replace H := Option.bind_eq_some_iff.mp H
              obtain ⟨t226, A190, H⟩ := H
              replace H : (if t226 = true then ((indicators_Consistent.f kj3 l0 y223).bind fun t227 => (if t227 = true then ((indicators_Consistent.f kj3 l0 ([] : List Bool)).bind fun t228 => (zoneinfolaw18_IndicatorsConsistency.j1 kj3 l0 l1 a2 (!t228))) else (zoneinfolaw18_IndicatorsConsistency.j1 kj3 l0 l1 a2 true))) else (zoneinfolaw18_IndicatorsConsistency.j1 kj3 l0 l1 a2 true)) = some r := H
              have A19 := Aside0.mk A190
              clear A190
              by_cases c20 : t226 = true
              · subst c20
                have H1 : ((indicators_Consistent.f kj3 l0 y223).bind fun t227 => (if t227 = true then ((indicators_Consistent.f kj3 l0 ([] : List Bool)).bind fun t228 => (zoneinfolaw18_IndicatorsConsistency.j1 kj3 l0 l1 a2 (!t228))) else (zoneinfolaw18_IndicatorsConsistency.j1 kj3 l0 l1 a2 true))) = some r := by rw [if_pos rfl] at H; exact H
                clear H
                have H := H1
                clear H1
                replace H := Option.bind_eq_some_iff.mp H
                obtain ⟨t227, A210, H⟩ := H
                replace H : (if t227 = true then ((indicators_Consistent.f kj3 l0 ([] : List Bool)).bind fun t228 => (zoneinfolaw18_IndicatorsConsistency.j1 kj3 l0 l1 a2 (!t228))) else (zoneinfolaw18_IndicatorsConsistency.j1 kj3 l0 l1 a2 true)) = some r := H
                have A21 := Aside0.mk A210
                clear A210
                by_cases c22 : t227 = true
                · subst c22
                  have H1 : ((indicators_Consistent.f kj3 l0 ([] : List Bool)).bind fun t228 => (zoneinfolaw18_IndicatorsConsistency.j1 kj3 l0 l1 a2 (!t228))) = some r := by rw [if_pos rfl] at H; exact H
                  clear H
                  have H := H1
                  clear H1
                  replace H := Option.bind_eq_some_iff.mp H
                  obtain ⟨t228, A230, H⟩ := H
                  replace H : (zoneinfolaw18_IndicatorsConsistency.j1 kj3 l0 l1 a2 (!t228)) = some r := H
                  have A23 := Aside0.mk A230
                  clear A230
                  have H' := Aside0.mk H
                  clear H
                  go_wp2_with (first | (go_at_call 14; (with_reducible refine (indicators_Consistent.calls kj3 _ _ l1 _ _ l1 true _ ?side1 ?side2 ?side3 ?side4 A19.out).mono ?_); (case side1 => repeat (first | exact (Kd.C_below HR1.out HB.out) | (with_reducible refine Kd.C_alloc ?_ _) | (with_reducible refine Kd.C_drewN ?_ _) | (with_reducible refine Kd.C_drew ?_))); (case side2 => exact HC1.out); (case side3 => repeat (first | exact (Kd.C_below HR1.out HB.out) | (with_reducible refine Kd.C_alloc ?_ _) | (with_reducible refine Kd.C_drewN ?_ _) | (with_reducible refine Kd.C_drew ?_))); (case side4 => exact HC1.out); rintro e w' ⟨rfl, ⟨nd, rfl⟩⟩; obtain ⟨Ao24, co24, eo24⟩ := Kd.R_slice HO225.out; subst eo24) | (go_at_call 14; (with_reducible refine (indicators_Consistent.calls kj3 _ _ l0 _ _ y223 true _ ?side1 ?side2 ?side3 ?side4 A21.out).mono ?_); (case side1 => repeat (first | exact (Kd.C_below HR0.out (by repeat (first | (with_reducible first | exact HB.out | apply below_alloc | apply pw_below_drewN | apply below_drew1) | exact HB.out))) | (with_reducible refine Kd.C_alloc ?_ _) | (with_reducible refine Kd.C_drewN ?_ _) | (with_reducible refine Kd.C_drew ?_))); (case side2 => exact HC0.out); (case side3 => repeat (first | exact (Kd.R_reads' HO225.out).2.2 | (with_reducible refine Kd.C_alloc ?_ _) | (with_reducible refine Kd.C_drewN ?_ _) | (with_reducible refine Kd.C_drew ?_))); (case side4 => exact (Kd.R_reads' HO225.out).2.1); rintro e w' ⟨rfl, ⟨nd, rfl⟩⟩) | (go_at_call 14; refine calls_of_args (args' := #[.slice A0 l0.length c0, .slice none ([] : List Bool).length 0]) (by rfl) ?_; (with_reducible refine (indicators_Consistent.calls kj3 _ _ l0 _ _ ([] : List Bool) t228 _ ?side1 ?side2 ?side3 ?side4 A23.out).mono ?_); (case side1 => repeat (first | exact (Kd.C_below HR0.out (by repeat (first | (with_reducible first | exact HB.out | apply below_alloc | apply pw_below_drewN | apply below_drew1) | exact HB.out))) | (with_reducible refine Kd.C_alloc ?_ _) | (with_reducible refine Kd.C_drewN ?_ _) | (with_reducible refine Kd.C_drew ?_))); (case side2 => exact HC0.out); (case side3 => exact Kd.C_nil _ _); (case side4 => exact Nat.le_refl _); rintro e w' ⟨rfl, ⟨nd, rfl⟩⟩))
                  go_meet
                  case rel => exact ⟨_, (!t228), (by first | rfl | (simp; done) | (simp [*]; done)), H', ⟨by have := HJ3.out; first | omega | exact Nat.le_refl _⟩, ⟨by repeat (first | (with_reducible first | exact HB.out | apply below_alloc | apply pw_below_drewN | apply below_drew1) | exact HB.out)⟩⟩
                · replace c22 := Bool.eq_false_iff.mpr c22
                  subst c22
                  have H1 : (zoneinfolaw18_IndicatorsConsistency.j1 kj3 l0 l1 a2 true) = some r := by rw [if_neg (show ¬ (false = true) by decide)] at H; exact H
                  clear H
                  have H := H1
                  clear H1
                  have H' := Aside0.mk H
                  clear H
                  go_wp2_with (first | (go_at_call 14; (with_reducible refine (indicators_Consistent.calls kj3 _ _ l1 _ _ l1 true _ ?side1 ?side2 ?side3 ?side4 A19.out).mono ?_); (case side1 => repeat (first | exact (Kd.C_below HR1.out HB.out) | (with_reducible refine Kd.C_alloc ?_ _) | (with_reducible refine Kd.C_drewN ?_ _) | (with_reducible refine Kd.C_drew ?_))); (case side2 => exact HC1.out); (case side3 => repeat (first | exact (Kd.C_below HR1.out HB.out) | (with_reducible refine Kd.C_alloc ?_ _) | (with_reducible refine Kd.C_drewN ?_ _) | (with_reducible refine Kd.C_drew ?_))); (case side4 => exact HC1.out); rintro e w' ⟨rfl, ⟨nd, rfl⟩⟩; obtain ⟨Ao25, co25, eo25⟩ := Kd.R_slice HO225.out; subst eo25) | (go_at_call 14; (with_reducible refine (indicators_Consistent.calls kj3 _ _ l0 _ _ y223 false _ ?side1 ?side2 ?side3 ?side4 A21.out).mono ?_); (case side1 => repeat (first | exact (Kd.C_below HR0.out (by repeat (first | (with_reducible first | exact HB.out | apply below_alloc | apply pw_below_drewN | apply below_drew1) | exact HB.out))) | (with_reducible refine Kd.C_alloc ?_ _) | (with_reducible refine Kd.C_drewN ?_ _) | (with_reducible refine Kd.C_drew ?_))); (case side2 => exact HC0.out); (case side3 => repeat (first | exact (Kd.R_reads' HO225.out).2.2 | (with_reducible refine Kd.C_alloc ?_ _) | (with_reducible refine Kd.C_drewN ?_ _) | (with_reducible refine Kd.C_drew ?_))); (case side4 => exact (Kd.R_reads' HO225.out).2.1); rintro e w' ⟨rfl, ⟨nd, rfl⟩⟩))
                  go_meet
                  case rel => exact ⟨_, (true), (by first | rfl | (simp; done) | (simp [*]; done)), H', ⟨by have := HJ3.out; first | omega | exact Nat.le_refl _⟩, ⟨by repeat (first | (with_reducible first | exact HB.out | apply below_alloc | apply pw_below_drewN | apply below_drew1) | exact HB.out)⟩⟩
              · replace c20 := Bool.eq_false_iff.mpr c20
                subst c20
                have H1 : (zoneinfolaw18_IndicatorsConsistency.j1 kj3 l0 l1 a2 true) = some r := by rw [if_neg (show ¬ (false = true) by decide)] at H; exact H
                clear H
                have H := H1
                clear H1
                have H' := Aside0.mk H
                clear H
                go_wp2_with (first | (go_at_call 14; (with_reducible refine (indicators_Consistent.calls kj3 _ _ l1 _ _ l1 false _ ?side1 ?side2 ?side3 ?side4 A19.out).mono ?_); (case side1 => repeat (first | exact (Kd.C_below HR1.out HB.out) | (with_reducible refine Kd.C_alloc ?_ _) | (with_reducible refine Kd.C_drewN ?_ _) | (with_reducible refine Kd.C_drew ?_))); (case side2 => exact HC1.out); (case side3 => repeat (first | exact (Kd.C_below HR1.out HB.out) | (with_reducible refine Kd.C_alloc ?_ _) | (with_reducible refine Kd.C_drewN ?_ _) | (with_reducible refine Kd.C_drew ?_))); (case side4 => exact HC1.out); rintro e w' ⟨rfl, ⟨nd, rfl⟩⟩))
                go_meet
                case rel => exact ⟨_, (true), (by first | rfl | (simp; done) | (simp [*]; done)), H', ⟨by have := HJ3.out; first | omega | exact Nat.le_refl _⟩, ⟨by repeat (first | (with_reducible first | exact HB.out | apply below_alloc | apply pw_below_drewN | apply below_drew1) | exact HB.out)⟩⟩
            case rest =>
              clear HC16
              try clear c1
              try clear c2
              try clear p2
              try clear c5
              try clear c6
              try clear c7
              try clear c7b0
              try clear c7b1
              try clear c11
              try clear c14
              try clear c14b0
              try clear c14b1
              try clear c15
              try clear c15b0
              try clear c15b1
              try clear c20
              try clear c22
              try clear p2
              obtain ⟨kq, x40_15, rfl, HA, HJ15, HB⟩ := hcut
              cases kq with
              | zero => exact absurd HA.out (by simp [zoneinfolaw18_IndicatorsConsistency.j1])
              | succ kj15 =>
                have H := HA.out
                clear HA
                simp only [zoneinfolaw18_IndicatorsConsistency.j1] at H
                by_cases c26 : x40_15 = true
                · subst c26
                  have H1 : (none) = some r := by rw [if_pos rfl] at H; exact H
                  clear H
                  have H := H1
                  clear H1
                  exact absurd H (by simp)
                · replace c26 := Bool.eq_false_iff.mpr c26
                  subst c26
                  have H1 : ((indicators_Consistent.f kj15 l0 l1).bind fun t229 => (if t229 = true then ((some (([] : List Bool) : List Bool)).bind fun y230 => (if y230.length + l0.length < 140737488355328 then ((some (y230 ++ l0 : List Bool)).bind fun y233 => (if (y233.length : Int) > 0 then (if (y233.length : Int) = 0 then (none) else (if 0 ≤ (Int.tmod (wrap64 (a2)) (y233.length : Int)) then (if (Int.tmod (wrap64 (a2)) (y233.length : Int)) < (y233.length : Int) then (zoneinfolaw18_IndicatorsConsistency.j2 kj15 l0 l1 a2 (y233.set ((Int.tmod (wrap64 (a2)) (y233.length : Int)) : Int).toNat true)) else (none)) else (none))) else (zoneinfolaw18_IndicatorsConsistency.j2 kj15 l0 l1 a2 y233))) else (none))) else (some true))) = some r := by rw [if_neg (show ¬ (false = true) by decide)] at H; exact H
                  clear H
                  have H := H1
                  clear H1
                  replace H := Option.bind_eq_some_iff.mp H
                  obtain ⟨t229, A270, H⟩ := H
                  replace H : (if t229 = true then ((some (([] : List Bool) : List Bool)).bind fun y230 => (if y230.length + l0.length < 140737488355328 then ((some (y230 ++ l0 : List Bool)).bind fun y233 => (if (y233.length : Int) > 0 then (if (y233.length : Int) = 0 then (none) else (if 0 ≤ (Int.tmod (wrap64 (a2)) (y233.length : Int)) then (if (Int.tmod (wrap64 (a2)) (y233.length : Int)) < (y233.length : Int) then (zoneinfolaw18_IndicatorsConsistency.j2 kj15 l0 l1 a2 (y233.set ((Int.tmod (wrap64 (a2)) (y233.length : Int)) : Int).toNat true)) else (none)) else (none))) else (zoneinfolaw18_IndicatorsConsistency.j2 kj15 l0 l1 a2 y233))) else (none))) else (some true)) = some r := H
                  have A27 := Aside0.mk A270
                  clear A270
                  by_cases c28 : t229 = true
                  · subst c28
                    have H1 : ((some (([] : List Bool) : List Bool)).bind fun y230 => (if y230.length + l0.length < 140737488355328 then ((some (y230 ++ l0 : List Bool)).bind fun y233 => (if (y233.length : Int) > 0 then (if (y233.length : Int) = 0 then (none) else (if 0 ≤ (Int.tmod (wrap64 (a2)) (y233.length : Int)) then (if (Int.tmod (wrap64 (a2)) (y233.length : Int)) < (y233.length : Int) then (zoneinfolaw18_IndicatorsConsistency.j2 kj15 l0 l1 a2 (y233.set ((Int.tmod (wrap64 (a2)) (y233.length : Int)) : Int).toNat true)) else (none)) else (none))) else (zoneinfolaw18_IndicatorsConsistency.j2 kj15 l0 l1 a2 y233))) else (none))) = some r := by rw [if_pos rfl] at H; exact H
                    clear H
                    have H := H1
                    clear H1
                    obtain ⟨y230, hy230⟩ : ∃ y_ : List Bool, y_ = (([] : List Bool)) := ⟨_, rfl⟩
                    replace H : (if y230.length + l0.length < 140737488355328 then ((some (y230 ++ l0 : List Bool)).bind fun y233 => (if (y233.length : Int) > 0 then (if (y233.length : Int) = 0 then (none) else (if 0 ≤ (Int.tmod (wrap64 (a2)) (y233.length : Int)) then (if (Int.tmod (wrap64 (a2)) (y233.length : Int)) < (y233.length : Int) then (zoneinfolaw18_IndicatorsConsistency.j2 kj15 l0 l1 a2 (y233.set ((Int.tmod (wrap64 (a2)) (y233.length : Int)) : Int).toNat true)) else (none)) else (none))) else (zoneinfolaw18_IndicatorsConsistency.j2 kj15 l0 l1 a2 y233))) else (none)) = some r := by first | (rw [hy230]; with_reducible exact H) | (have H2_ := (Option.bind_some _ _).symm.trans H; rw [hy230]; with_reducible exact H2_) | (have H2_ := (Option.bind_some _ _).symm.trans H; with_reducible exact H2_) | with_reducible exact H | (rw [hy230]; exact H) | exact H
                    have Ny230 := Aside0.mk hy230
                    clear hy230
                    by_cases c29 : y230.length + l0.length < 140737488355328
                    · rw [if_pos c29] at H
                      have LMc29 := Aside0.mk c29
                      clear c29
                      obtain ⟨y233, hy233⟩ : ∃ y_ : List Bool, y_ = (y230 ++ l0) := ⟨_, rfl⟩
                      replace H : (if (y233.length : Int) > 0 then (if (y233.length : Int) = 0 then (none) else (if 0 ≤ (Int.tmod (wrap64 (a2)) (y233.length : Int)) then (if (Int.tmod (wrap64 (a2)) (y233.length : Int)) < (y233.length : Int) then (zoneinfolaw18_IndicatorsConsistency.j2 kj15 l0 l1 a2 (y233.set ((Int.tmod (wrap64 (a2)) (y233.length : Int)) : Int).toNat true)) else (none)) else (none))) else (zoneinfolaw18_IndicatorsConsistency.j2 kj15 l0 l1 a2 y233)) = some r := by first | (rw [hy233]; with_reducible exact H) | (have H2_ := (Option.bind_some _ _).symm.trans H; rw [hy233]; with_reducible exact H2_) | (have H2_ := (Option.bind_some _ _).symm.trans H; with_reducible exact H2_) | with_reducible exact H | (rw [hy233]; exact H) | exact H
                      have Ny233 := Aside0.mk hy233
                      clear hy233
                      have HC30 := Aside0.mk H
                      clear H
                      go_upto_if 50 with (first | ((with_reducible refine gate_callee (f := 14) rfl ?_); refine goesL_ (some 43) rfl rfl Tryd.func14 (by kernel_rfl) rfl #[.slice A0 l0.length c0, .slice A1 l1.length c1] rfl (by (try simp only [List.map_toArray, List.map_cons, List.map_nil]); first | done | rfl | (simp only [List.length_drop, List.length_take]; rfl)) ?_; (with_reducible refine (indicators_Consistent.calls kj15 _ _ l0 _ _ l1 true _ ?side1 ?side2 ?side3 ?side4 A27.out).mono ?_); (case side1 => repeat (first | exact (Kd.C_below HR0.out HB.out) | (with_reducible refine Kd.C_alloc ?_ _) | (with_reducible refine Kd.C_drewN ?_ _) | (with_reducible refine Kd.C_drew ?_))); (case side2 => exact HC0.out); (case side3 => repeat (first | exact (Kd.C_below HR1.out HB.out) | (with_reducible refine Kd.C_alloc ?_ _) | (with_reducible refine Kd.C_drewN ?_ _) | (with_reducible refine Kd.C_drew ?_))); (case side4 => exact HC1.out); rintro e w' ⟨rfl, ⟨nd, rfl⟩⟩; refine ⟨_, rfl, ?_⟩) | ((with_reducible refine gate_dst (N := 45) rfl ?_); (try (refine gate_guard (by rfl) ?_; dsimp only)); refine Kd.R_lit Kd.bool _ 4 ?hg (N := 45) ?hd (xs := ([] : List Bool)) (inner := []) (ok := fun _ => True) (okp := fun _ => True) ?hr ?hp (fun _ hk => hk) trivial (Below.refl _ _) (Nat.le_refl _) (by simp) ?_; (case hd => rfl); (case hg => rfl); (case hr => first | (go_simp; done) | (go_simp; rfl)); (case hp => exact (Reps.none _ _)); intro v231 w31 ho32 hb hg_ hnew_; clear hg_ hnew_; (first | rw [← Ny230.out] at ho32 | (simp only [Int.reduceToNat] at ho32; rw [← Ny230.out] at ho32)); have n0_ := Aside0.mk (Kd.R_lower ho32 (below_size (by repeat (first | (with_reducible first | exact HB.out | apply below_alloc | apply pw_below_drewN | apply below_drew1) | exact HB.out)))); have n1_ := Aside0.mk (below_step (by repeat (first | (with_reducible first | exact HB.out | apply below_alloc | apply pw_below_drewN | apply below_drew1) | exact HB.out)) hb); clear HB; have HO232 := n0_; have HB := n1_; clear n0_ n1_; clear hb ho32) | ((with_reducible refine gate_builtin (b := .append) (xs := #[.tmp 45, .tmp 46]) rfl ?_); (try (refine gate_guard (by rfl) ?_; dsimp only)); at_builtin; refine Kd.R_append_rows Kd.bool (w0 := w) w.heap.size rfl (.tmp 45) (.tmp 46) 23 4 (.bool false) 1 rfl Tryd.underlying23 info4 rfl (by decide) (by omega) v231 y230 l0 _ _ _ (fun _ => True) (fun _ => False) rfl rfl ?aO ?aR (fun _ _ h => h) (fun _ h => h.elim) ?aF ?aB ?aS ?aL ?_; (case aR => repeat (first | exact (Kd.C_below HR0.out HB.out) | (with_reducible refine Kd.C_alloc ?_ _) | (with_reducible refine Kd.C_drewN ?_ _) | (with_reducible refine Kd.C_drew ?_))); (case aB => exact (by repeat (first | (with_reducible first | exact HB.out | apply below_alloc | apply pw_below_drewN | apply below_drew1) | exact HB.out))); (case aF => exact (fun _ _ => trivial)); (case aO => exact (by (with_reducible repeat (first | apply Kd.R_alloc | apply Kd.R_drewN | apply Kd.R_drew)); exact HO232.out)); (case aS => exact (below_size (by repeat (first | (with_reducible first | exact HB.out | apply below_alloc | apply pw_below_drewN | apply below_drew1) | exact HB.out)))); (case aL => have := LMc29.out; omega); intro v234 w33 ho hb hg hat; rw [← Ny233.out] at ho; have n0_ := Aside0.mk (hb); have n1_ := Aside0.mk (ho); clear HB; clear HO232; have HB := n0_; have HO235 := n1_; clear n0_ n1_; clear ho hb hg hat; obtain ⟨Ao34, co34, eo34⟩ := Kd.R_slice HO235.out; subst eo34))
                      (try simp only [Act.put, List.setIfInBounds_toArray, List.set_cons_zero, List.set_cons_succ])
                      go_cut [] (fun wc => ∃ (kq : Nat) (x8_29 : List Bool), Aside0 (zoneinfolaw18_IndicatorsConsistency.j2 kq l0 l1 a2 x8_29 = some r) ∧ Aside0 (kq ≤ kj15) ∧ Aside0 (Kd.R Kd.bool 4 wc w.heap.size (fun _ => True) (.slice Ao34 y233.length co34) x8_29) ∧ Aside0 (Below w.heap.size w wc))
                      case first =>
                        have H := HC30.out
                        clear HC30
                        by_cases c35 : (y233.length : Int) > 0
                        · rw [if_pos c35] at H
                          have c35b0 : decide (0 < (y233.length : Int)) = true := decide_eq_true c35
                          have c35b1 : decide (0 < y233.length) = true := decide_eq_true (by omega)
                          clear c35
                          (first | rw [c35b0] | (simp only [i64_w, i32_w]; rw [c35b0]) | skip)
                          by_cases c36 : (y233.length : Int) = 0
                          · rw [if_pos c36] at H
                            exact absurd H (by simp)
                          · rw [if_neg c36] at H
                            have c36b0 : ((y233.length : Int) == 0) = false := beq_eq_false_iff_ne.mpr c36
                            have c36b1 : ((y233.length : Int) != 0) = true := bne_iff_ne.mpr c36
                            have c36b2 : ¬ (y233 = []) := fun h_ => c36 (by rw [h_]; rfl)
                            obtain ⟨ji37, hji37⟩ : ∃ j_ : Int, (Int.tmod (wrap64 (a2)) (y233.length : Int)) = j_ := ⟨_, rfl⟩
                            replace H : (if 0 ≤ (ji37) then (if (ji37) < (y233.length : Int) then (zoneinfolaw18_IndicatorsConsistency.j2 kj15 l0 l1 a2 (y233.set ((ji37) : Int).toNat true)) else (none)) else (none)) = some r := by first | (rw [hji37] at H; exact H) | (simp only [hji37] at H ⊢; exact H)
                            by_cases c38 : 0 ≤ (ji37)
                            · rw [if_pos c38] at H
                              have c38b0 : decide (0 ≤ (ji37)) = true := decide_eq_true c38
                              clear c38
                              by_cases c39 : (ji37) < (y233.length : Int)
                              · rw [if_pos c39] at H
                                have c39b0 : decide ((ji37) < (y233.length : Int)) = true := decide_eq_true c39
                                clear c39
                                obtain ⟨y236, hy236⟩ : ∃ y_ : List Bool, y_ = (y233.set ((ji37) : Int).toNat true) := ⟨_, rfl⟩
                                replace H : (zoneinfolaw18_IndicatorsConsistency.j2 kj15 l0 l1 a2 y236) = some r := by first | (rw [hy236]; with_reducible exact H) | (have H2_ := (Option.bind_some _ _).symm.trans H; rw [hy236]; with_reducible exact H2_) | (have H2_ := (Option.bind_some _ _).symm.trans H; with_reducible exact H2_) | with_reducible exact H | (rw [hy236]; exact H) | exact H
                                have Ny236 := Aside0.mk hy236
                                clear hy236
                                have H' := Aside0.mk H
                                clear H
                                have p40 : 0 ≤ ((ji37) : Int) := of_decide_eq_true (by first | (with_reducible assumption) | assumption)
                                have q40 : ((ji37) : Int) < ((y233.length : Int) : Int) := of_decide_eq_true (by first | (with_reducible assumption) | assumption)
                                obtain ⟨go40, co40, eo40, gb40, gl40, cl40, HG40⟩ := Kd.R_form HO235.out (by omega)
                                (first | cases eo40 | (injection eo40 with ea_ en_ ec_; (first | subst ea_ | (injection ea_ with ea_; subst ea_)); subst ec_; clear en_))
                                have GB40 := Aside0.mk gb40
                                have GG40 := Aside0.mk HG40
                                clear gb40 gl40 HG40
                                obtain ⟨hx40_0, hf40_0⟩ := Kd.R_celln false HO235.out ((ji37) : Int) p40 q40
                                replace p40 := eq_true p40
                                replace q40 := eq_true q40
                                have HP41 := Kd.R_putg HO235.out ((ji37) : Int) true
                                go_wp2_with (first | ((with_reducible refine gate_store (t := 4) (p := 57) rfl ?_); refine store_event (t := 4) (p := 57) (v := ?vo_w42) (w1 := (w33.setCell ⟨go40, ((ji37) : Int).toNat, none⟩ (.bool true))) ?hg ?ho ?hn ?hr ?_; (case ho => rfl); (case hg => rfl); (case hn => rfl); (case hr => first | (go_simp; done) | (go_simp; rfl)); intro w42 hw; have hg : w33.grownBy w42 (some go40) := (by rw [hw]; exact HP41.2); have hp_ : Kd.R Kd.bool 4 w42 w.heap.size (fun _ => True) (.slice (some ⟨go40, 0, none⟩) y233.length co34) y236 := (by rw [hw, Ny236.out]; exact HP41.1); clear HP41; have n0_ := Aside0.mk (hp_); have n1_ := Aside0.mk ((by rw [hw]; exact below_set (HB.out) GB40.out : Below w.heap.size w w42)); clear HO235; clear HB; have HO235 := n0_; have HB := n1_; clear n0_ n1_; clear hg hw hp_))
                                go_meet
                                case rel => exact ⟨_, (y236), H', ⟨by have := HJ3.out; have := HJ15.out; first | omega | exact Nat.le_refl _⟩, ⟨by (with_reducible repeat (first | apply Kd.R_alloc | apply Kd.R_drewN | apply Kd.R_drew)); exact HO235.out⟩, ⟨by repeat (first | (with_reducible first | exact HB.out | apply below_alloc | apply pw_below_drewN | apply below_drew1) | exact HB.out)⟩⟩
                              · rw [if_neg c39] at H
                                exact absurd H (by simp)
                            · rw [if_neg c38] at H
                              exact absurd H (by simp)
                        · rw [if_neg c35] at H
                          have c35b0 : decide (0 < (y233.length : Int)) = false := decide_eq_false c35
                          have c35b1 : decide (0 < y233.length) = false := decide_eq_false (by omega)
                          have c35b2 : (0 < y233.length) = False := eq_false (by omega)
                          have c35b3 : (0 < (y233.length : Int)) = False := eq_false (by omega)
                          have c35b4 : y233 = [] := List.length_eq_zero_iff.1 (by omega)
                          have c35b5 : y233.length = 0 := by omega
                          clear c35
                          (first | rw [c35b0] | (simp only [i64_w, i32_w]; rw [c35b0]) | skip)
                          have H' := Aside0.mk H
                          clear H
                          go_wp2
                          go_meet
                          case rel => exact ⟨_, (y233), H', ⟨by have := HJ3.out; have := HJ15.out; first | omega | exact Nat.le_refl _⟩, ⟨by (with_reducible repeat (first | apply Kd.R_alloc | apply Kd.R_drewN | apply Kd.R_drew)); exact HO235.out⟩, ⟨by repeat (first | (with_reducible first | exact HB.out | apply below_alloc | apply pw_below_drewN | apply below_drew1) | exact HB.out)⟩⟩
                      case rest =>
                        clear HC30
                        try clear c1
                        try clear c2
                        try clear p2
                        try clear c3
                        try clear p4
                        try clear q4
                        try clear hx4
                        try clear hf4
                        try clear c5
                        try clear c6
                        try clear p6
                        try clear c7
                        try clear c7b0
                        try clear c7b1
                        try clear c11
                        try clear c14
                        try clear c14b0
                        try clear c14b1
                        try clear c15
                        try clear c15b0
                        try clear c15b1
                        try clear c20
                        try clear c22
                        try clear c26
                        try clear c28
                        try clear c29
                        try clear c35
                        try clear c35b0
                        try clear c35b1
                        try clear c36
                        try clear c36b0
                        try clear c36b1
                        try clear c36b2
                        try clear c38
                        try clear c38b0
                        try clear c39
                        try clear c39b0
                        try clear p40
                        try clear q40
                        try clear hx40
                        try clear hf40
                        try clear hx40_0
                        try clear p2
                        try clear p40
                        try clear q40
                        obtain ⟨kq, x8_29, HA, HJ29, HO_8, HB⟩ := hcut
                        have hl8_29 := (Kd.R_reads' HO_8.out).1
                        rw [hl8_29] at HO_8
                        (try simp only [hl8_29])
                        cases kq with
                        | zero => exact absurd HA.out (by simp [zoneinfolaw18_IndicatorsConsistency.j2])
                        | succ kj29 =>
                          have H := HA.out
                          clear HA
                          simp only [zoneinfolaw18_IndicatorsConsistency.j2] at H
                          obtain ⟨y237, hy237⟩ : ∃ y_ : List Bool, y_ = (([] : List Bool)) := ⟨_, rfl⟩
                          replace H : (if y237.length + l1.length < 140737488355328 then ((some (y237 ++ l1 : List Bool)).bind fun y240 => (if (y240.length : Int) > 0 then (if (y240.length : Int) = 0 then (none) else (if 0 ≤ (Int.tmod (wrap64 (a2)) (y240.length : Int)) then (if (Int.tmod (wrap64 (a2)) (y240.length : Int)) < (y240.length : Int) then ((indicators_Consistent.f kj29 x8_29 l1).bind fun t244 => (if t244 = true then ((indicators_Consistent.f kj29 l0 (y240.set ((Int.tmod (wrap64 (a2)) (y240.length : Int)) : Int).toNat false)).bind fun t245 => (if t245 = true then (if x8_29.length < 140737488355328 then ((indicators_Consistent.f kj29 (x8_29 ++ [false]) l1).bind fun t249 => (some t249)) else (none)) else (none))) else (none))) else (none)) else (none))) else ((indicators_Consistent.f kj29 x8_29 l1).bind fun t250 => (if t250 = true then ((indicators_Consistent.f kj29 l0 y240).bind fun t251 => (if t251 = true then (if x8_29.length < 140737488355328 then ((indicators_Consistent.f kj29 (x8_29 ++ [false]) l1).bind fun t255 => (some t255)) else (none)) else (none))) else (none))))) else (none)) = some r := by first | (rw [hy237]; with_reducible exact H) | (have H2_ := (Option.bind_some _ _).symm.trans H; rw [hy237]; with_reducible exact H2_) | (have H2_ := (Option.bind_some _ _).symm.trans H; with_reducible exact H2_) | with_reducible exact H | (rw [hy237]; exact H) | exact H
                          have Ny237 := Aside0.mk hy237
                          clear hy237
                          by_cases c43 : y237.length + l1.length < 140737488355328
                          · rw [if_pos c43] at H
                            have LMc43 := Aside0.mk c43
                            clear c43
                            obtain ⟨y240, hy240⟩ : ∃ y_ : List Bool, y_ = (y237 ++ l1) := ⟨_, rfl⟩
                            replace H : (if (y240.length : Int) > 0 then (if (y240.length : Int) = 0 then (none) else (if 0 ≤ (Int.tmod (wrap64 (a2)) (y240.length : Int)) then (if (Int.tmod (wrap64 (a2)) (y240.length : Int)) < (y240.length : Int) then ((indicators_Consistent.f kj29 x8_29 l1).bind fun t244 => (if t244 = true then ((indicators_Consistent.f kj29 l0 (y240.set ((Int.tmod (wrap64 (a2)) (y240.length : Int)) : Int).toNat false)).bind fun t245 => (if t245 = true then (if x8_29.length < 140737488355328 then ((indicators_Consistent.f kj29 (x8_29 ++ [false]) l1).bind fun t249 => (some t249)) else (none)) else (none))) else (none))) else (none)) else (none))) else ((indicators_Consistent.f kj29 x8_29 l1).bind fun t250 => (if t250 = true then ((indicators_Consistent.f kj29 l0 y240).bind fun t251 => (if t251 = true then (if x8_29.length < 140737488355328 then ((indicators_Consistent.f kj29 (x8_29 ++ [false]) l1).bind fun t255 => (some t255)) else (none)) else (none))) else (none)))) = some r := by first | (rw [hy240]; with_reducible exact H) | (have H2_ := (Option.bind_some _ _).symm.trans H; rw [hy240]; with_reducible exact H2_) | (have H2_ := (Option.bind_some _ _).symm.trans H; with_reducible exact H2_) | with_reducible exact H | (rw [hy240]; exact H) | exact H
                            have Ny240 := Aside0.mk hy240
                            clear hy240
                            by_cases c44 : (y240.length : Int) > 0
                            · rw [if_pos c44] at H
                              have c44b0 : decide (0 < (y240.length : Int)) = true := decide_eq_true c44
                              have c44b1 : decide (0 < y240.length) = true := decide_eq_true (by omega)
                              clear c44
                              by_cases c45 : (y240.length : Int) = 0
                              · rw [if_pos c45] at H
                                exact absurd H (by simp)
                              · rw [if_neg c45] at H
                                have c45b0 : ((y240.length : Int) == 0) = false := beq_eq_false_iff_ne.mpr c45
                                have c45b1 : ((y240.length : Int) != 0) = true := bne_iff_ne.mpr c45
                                have c45b2 : ¬ (y240 = []) := fun h_ => c45 (by rw [h_]; rfl)
                                obtain ⟨ji46, hji46⟩ : ∃ j_ : Int, (Int.tmod (wrap64 (a2)) (y240.length : Int)) = j_ := ⟨_, rfl⟩
                                replace H : (if 0 ≤ (ji46) then (if (ji46) < (y240.length : Int) then ((indicators_Consistent.f kj29 x8_29 l1).bind fun t244 => (if t244 = true then ((indicators_Consistent.f kj29 l0 (y240.set ((ji46) : Int).toNat false)).bind fun t245 => (if t245 = true then (if x8_29.length < 140737488355328 then ((indicators_Consistent.f kj29 (x8_29 ++ [false]) l1).bind fun t249 => (some t249)) else (none)) else (none))) else (none))) else (none)) else (none)) = some r := by first | (rw [hji46] at H; exact H) | (simp only [hji46] at H ⊢; exact H)
                                by_cases c47 : 0 ≤ (ji46)
                                · rw [if_pos c47] at H
                                  have c47b0 : decide (0 ≤ (ji46)) = true := decide_eq_true c47
                                  clear c47
                                  by_cases c48 : (ji46) < (y240.length : Int)
                                  · rw [if_pos c48] at H
                                    have c48b0 : decide ((ji46) < (y240.length : Int)) = true := decide_eq_true c48
                                    clear c48
                                    obtain ⟨y243, hy243⟩ : ∃ y_ : List Bool, y_ = (y240.set ((ji46) : Int).toNat false) := ⟨_, rfl⟩
                                    replace H : ((indicators_Consistent.f kj29 x8_29 l1).bind fun t244 => (if t244 = true then ((indicators_Consistent.f kj29 l0 y243).bind fun t245 => (if t245 = true then (if x8_29.length < 140737488355328 then ((indicators_Consistent.f kj29 (x8_29 ++ [false]) l1).bind fun t249 => (some t249)) else (none)) else (none))) else (none))) = some r := by first | (rw [hy243]; with_reducible exact H) | (have H2_ := (Option.bind_some _ _).symm.trans H; rw [hy243]; with_reducible exact H2_) | (have H2_ := (Option.bind_some _ _).symm.trans H; with_reducible exact H2_) | with_reducible exact H | (rw [hy243]; exact H) | exact H
                                    have Ny243 := Aside0.mk hy243
                                    clear hy243
                                    replace H := Option.bind_eq_some_iff.mp H
                                    obtain ⟨t244, A500, H⟩ := H
                                    replace H : (if t244 = true then ((indicators_Consistent.f kj29 l0 y243).bind fun t245 => (if t245 = true then (if x8_29.length < 140737488355328 then ((indicators_Consistent.f kj29 (x8_29 ++ [false]) l1).bind fun t249 => (some t249)) else (none)) else (none))) else (none)) = some r := H
                                    have A50 := Aside0.mk A500
                                    clear A500
                                    by_cases c51 : t244 = true
                                    · subst c51
                                      have H1 : ((indicators_Consistent.f kj29 l0 y243).bind fun t245 => (if t245 = true then (if x8_29.length < 140737488355328 then ((indicators_Consistent.f kj29 (x8_29 ++ [false]) l1).bind fun t249 => (some t249)) else (none)) else (none))) = some r := by rw [if_pos rfl] at H; exact H
                                      clear H
                                      have H := H1
                                      clear H1
                                      replace H := Option.bind_eq_some_iff.mp H
                                      obtain ⟨t245, A520, H⟩ := H
                                      replace H : (if t245 = true then (if x8_29.length < 140737488355328 then ((indicators_Consistent.f kj29 (x8_29 ++ [false]) l1).bind fun t249 => (some t249)) else (none)) else (none)) = some r := H
                                      have A52 := Aside0.mk A520
                                      clear A520
                                      by_cases c53 : t245 = true
                                      · subst c53
                                        have H1 : (if x8_29.length < 140737488355328 then ((indicators_Consistent.f kj29 (x8_29 ++ [false]) l1).bind fun t249 => (some t249)) else (none)) = some r := by rw [if_pos rfl] at H; exact H
                                        clear H
                                        have H := H1
                                        clear H1
                                        by_cases c54 : x8_29.length < 140737488355328
                                        · rw [if_pos c54] at H
                                          have LMc54 := Aside0.mk c54
                                          clear c54
                                          obtain ⟨y246, hy246⟩ : ∃ y_ : List Bool, y_ = (x8_29 ++ [false]) := ⟨_, rfl⟩
                                          replace H : ((indicators_Consistent.f kj29 y246 l1).bind fun t249 => (some t249)) = some r := by first | (rw [hy246]; with_reducible exact H) | (have H2_ := (Option.bind_some _ _).symm.trans H; rw [hy246]; with_reducible exact H2_) | (have H2_ := (Option.bind_some _ _).symm.trans H; with_reducible exact H2_) | with_reducible exact H | (rw [hy246]; exact H) | exact H
                                          have Ny246 := Aside0.mk hy246
                                          clear hy246
                                          replace H := Option.bind_eq_some_iff.mp H
                                          obtain ⟨t249, A550, H⟩ := H
                                          replace H : (some t249) = some r := H
                                          have A55 := Aside0.mk A550
                                          clear A550
                                          obtain rfl := Option.some.inj H
                                          go_wp2_with (first | ((with_reducible refine gate_dst (N := 58) rfl ?_); (try (refine gate_guard (by rfl) ?_; dsimp only)); refine Kd.R_lit Kd.bool _ 4 ?hg (N := 58) ?hd (xs := ([] : List Bool)) (inner := []) (ok := fun _ => True) (okp := fun _ => True) ?hr ?hp (fun _ hk => hk) trivial (Below.refl _ _) (Nat.le_refl _) (by simp) ?_; (case hd => rfl); (case hg => rfl); (case hr => first | (go_simp; done) | (go_simp; rfl)); (case hp => exact (Reps.none _ _)); intro v238 w56 ho57 hb hg_ hnew_; clear hg_ hnew_; (first | rw [← Ny237.out] at ho57 | (simp only [Int.reduceToNat] at ho57; rw [← Ny237.out] at ho57)); have n0_ := Aside0.mk (Kd.R_elder' (by (with_reducible repeat (first | apply Kd.R_alloc | apply Kd.R_drewN | apply Kd.R_drew)); exact HO_8.out) (Kd.R_base ho57) hb); have n1_ := Aside0.mk (Kd.R_lower (Kd.R_new' ho57 (Kd.R_lt (by (with_reducible repeat (first | apply Kd.R_alloc | apply Kd.R_drewN | apply Kd.R_drew)); exact HO_8.out))) (below_size (by repeat (first | (with_reducible first | exact HB.out | apply below_alloc | apply pw_below_drewN | apply below_drew1) | exact HB.out)))); have n2_ := Aside0.mk (below_step (by repeat (first | (with_reducible first | exact HB.out | apply below_alloc | apply pw_below_drewN | apply below_drew1) | exact HB.out)) hb); clear HO_8; clear HB; have HO_8 := n0_; have HO239 := n1_; have HB := n2_; clear n0_ n1_ n2_; clear hb ho57) | ((with_reducible refine gate_builtin (b := .append) (xs := #[.tmp 58, .tmp 59]) rfl ?_); (try (refine gate_guard (by rfl) ?_; dsimp only)); at_builtin; refine Kd.R_append_rows Kd.bool (w0 := w) w.heap.size rfl (.tmp 58) (.tmp 59) 23 4 (.bool false) 1 rfl Tryd.underlying23 info4 rfl (by decide) (by omega) v238 y237 l1 _ _ _ (fun k_ => some k_ ≠ (.slice Ao34 x8_29.length co34 : Value).ownBlock) (fun _ => False) rfl rfl ?aO ?aR (fun _ _ h => h) (fun _ h => h.elim) ?aF ?aB ?aS ?aL ?_; (case aR => repeat (first | exact (Kd.C_below HR1.out HB.out) | (with_reducible refine Kd.C_alloc ?_ _) | (with_reducible refine Kd.C_drewN ?_ _) | (with_reducible refine Kd.C_drew ?_))); (case aB => exact (by repeat (first | (with_reducible first | exact HB.out | apply below_alloc | apply pw_below_drewN | apply below_drew1) | exact HB.out))); (case aF => exact (fun k_ hk => Kd.fresh' (Kd.R_lt (by (with_reducible repeat (first | apply Kd.R_alloc | apply Kd.R_drewN | apply Kd.R_drew)); exact HO_8.out)) k_ hk)); (case aO => exact (by (with_reducible repeat (first | apply Kd.R_alloc | apply Kd.R_drewN | apply Kd.R_drew)); exact Kd.R_mono HO239.out (fun _ hk => hk.2))); (case aS => exact (below_size (by repeat (first | (with_reducible first | exact HB.out | apply below_alloc | apply pw_below_drewN | apply below_drew1) | exact HB.out)))); (case aL => have := LMc43.out; omega); intro v241 w58 ho hb hg hat; rw [← Ny240.out] at ho; have n0_ := Aside0.mk (Kd.R_after (ok := (fun _ => True)) (by (with_reducible repeat (first | apply Kd.R_alloc | apply Kd.R_drewN | apply Kd.R_drew)); exact HO_8.out) hg hat); have n1_ := Aside0.mk (hb); have n2_ := Aside0.mk (ho); clear HO_8; clear HB; clear HO239; have HO_8 := n0_; have HB := n1_; have HO242 := n2_; clear n0_ n1_ n2_; clear ho hb hg hat; obtain ⟨Ao59, co59, eo59⟩ := Kd.R_slice HO242.out; subst eo59; have p49 : 0 ≤ ((ji46) : Int) := of_decide_eq_true (by first | (with_reducible assumption) | assumption); have q49 : ((ji46) : Int) < ((y240.length : Int) : Int) := of_decide_eq_true (by first | (with_reducible assumption) | assumption); obtain ⟨go49, co49, eo49, gb49, gl49, cl49, HG49⟩ := Kd.R_form HO242.out (by omega); (first | cases eo49 | (injection eo49 with ea_ en_ ec_; (first | subst ea_ | (injection ea_ with ea_; subst ea_)); subst ec_; clear en_)); have GB49 := Aside0.mk gb49; have GG49 := Aside0.mk HG49; clear gb49 gl49 HG49; obtain ⟨hx49_0, hf49_0⟩ := Kd.R_celln false HO242.out ((ji46) : Int) p49 q49; replace p49 := eq_true p49; replace q49 := eq_true q49; obtain ⟨hy60_, hz60_⟩ := Kd.R_celln false HO242.out ((ji46) : Int) (of_decide_eq_true (by first | (with_reducible assumption) | assumption)) (of_decide_eq_true (by first | (with_reducible assumption) | assumption)); have HP60 := Kd.R_putg HO242.out ((ji46) : Int) false) | ((with_reducible refine gate_store (t := 4) (p := 70) rfl ?_); refine store_event (t := 4) (p := 70) (v := ?vo_w61) (w1 := (w58.setCell ⟨go49, ((ji46) : Int).toNat, none⟩ (.bool false))) ?hg ?ho ?hn ?hr ?_; (case ho => rfl); (case hg => rfl); (case hn => rfl); (case hr => first | (go_simp; done) | (go_simp; rfl)); intro w61 hw; have hg : w58.grownBy w61 (some go49) := (by rw [hw]; exact HP60.2); have hp_ : Kd.R Kd.bool 4 w61 w.heap.size (fun k_ => some k_ ≠ (.slice Ao34 x8_29.length co34 : Value).ownBlock) (.slice (some ⟨go49, 0, none⟩) y240.length co59) y243 := (by rw [hw, Ny243.out]; exact HP60.1); clear HP60; have n0_ := Aside0.mk (Kd.R_after (v := (.slice (some ⟨go49, 0, none⟩) y240.length co59)) (v1 := (.slice (some ⟨go49, 0, none⟩) y240.length co59)) (ok := (fun _ => True)) (by (with_reducible repeat (first | apply Kd.R_alloc | apply Kd.R_drewN | apply Kd.R_drew)); exact HO_8.out) hg (.inl rfl)); have n1_ := Aside0.mk (hp_); have n2_ := Aside0.mk ((by rw [hw]; exact below_set (HB.out) GB49.out : Below w.heap.size w w61)); clear HO_8; clear HO242; clear HB; have HO_8 := n0_; have HO242 := n1_; have HB := n2_; clear n0_ n1_ n2_; clear hg hw hp_) | (go_at_call 14; (with_reducible refine (indicators_Consistent.calls kj29 _ _ x8_29 _ _ l1 true _ ?side1 ?side2 ?side3 ?side4 A50.out).mono ?_); (case side1 => repeat (first | exact (Kd.R_reads' HO_8.out).2.2 | (with_reducible refine Kd.C_alloc ?_ _) | (with_reducible refine Kd.C_drewN ?_ _) | (with_reducible refine Kd.C_drew ?_))); (case side2 => exact (Kd.R_reads' HO_8.out).2.1); (case side3 => repeat (first | exact (Kd.C_below HR1.out HB.out) | (with_reducible refine Kd.C_alloc ?_ _) | (with_reducible refine Kd.C_drewN ?_ _) | (with_reducible refine Kd.C_drew ?_))); (case side4 => exact HC1.out); rintro e w' ⟨rfl, ⟨nd, rfl⟩⟩) | (go_at_call 14; refine calls_of_args (args' := #[.slice A0 l0.length c0, .slice (some ⟨go49, 0, none⟩) y243.length co59]) (by first | (rw [show y243.length = y240.length from (Kd.R_reads' HO242.out).1.symm] <;> rfl) | rfl) ?_; (with_reducible refine (indicators_Consistent.calls kj29 _ _ l0 _ _ y243 true _ ?side1 ?side2 ?side3 ?side4 A52.out).mono ?_); (case side1 => repeat (first | exact (Kd.C_below HR0.out (by repeat (first | (with_reducible first | exact HB.out | apply below_alloc | apply pw_below_drewN | apply below_drew1) | exact HB.out))) | (with_reducible refine Kd.C_alloc ?_ _) | (with_reducible refine Kd.C_drewN ?_ _) | (with_reducible refine Kd.C_drew ?_))); (case side2 => exact HC0.out); (case side3 => repeat (first | exact (Kd.R_reads' HO242.out).2.2 | (with_reducible refine Kd.C_alloc ?_ _) | (with_reducible refine Kd.C_drewN ?_ _) | (with_reducible refine Kd.C_drew ?_))); (case side4 => rw [show y243.length = y240.length from (Kd.R_reads' HO242.out).1.symm]; exact (Kd.R_reads' HO242.out).2.1); rintro e w' ⟨rfl, ⟨nd, rfl⟩⟩) | ((with_reducible refine gate_builtin (b := .append) (xs := #[.tmp 80, .tmp 81]) rfl ?_); (try (refine gate_guard (by rfl) ?_; dsimp only)); at_builtin; refine Kd.R_append Kd.bool (w0 := w) w.heap.size rfl (.tmp 80) (.tmp 81) 23 4 (.bool false) 1 rfl Tryd.underlying23 info4 rfl (by decide) (by omega) (.slice Ao34 x8_29.length co34) x8_29 false [.bool false] (fun k_ => some k_ ≠ (.slice (some ⟨go49, 0, none⟩) y240.length co59 : Value).ownBlock) (fun _ => False) rfl rfl ?aP (fun _ hk => hk.elim) ?aF ?aO ?aB ?aS ?aL ?_; (case aP => exact rfl); (case aB => exact (by repeat (first | (with_reducible first | exact HB.out | apply below_alloc | apply pw_below_drewN | apply below_drew1) | exact HB.out))); (case aF => exact (fun k_ hk => Kd.fresh' (Kd.R_lt (by (with_reducible repeat (first | apply Kd.R_alloc | apply Kd.R_drewN | apply Kd.R_drew)); exact HO242.out)) k_ hk)); (case aO => exact (by (with_reducible repeat (first | apply Kd.R_alloc | apply Kd.R_drewN | apply Kd.R_drew)); exact Kd.R_mono HO_8.out (fun _ hk => hk.2))); (case aS => exact (below_size (by repeat (first | (with_reducible first | exact HB.out | apply below_alloc | apply pw_below_drewN | apply below_drew1) | exact HB.out)))); (case aL => have := LMc54.out; omega); intro v247 w62 ho hb hg hat; rw [← Ny246.out] at ho; have n0_ := Aside0.mk (Kd.R_after (ok := (fun _ => True)) (by (with_reducible repeat (first | apply Kd.R_alloc | apply Kd.R_drewN | apply Kd.R_drew)); exact Kd.R_mono HO242.out (fun _ hk => ⟨trivial, hk⟩)) hg hat); have n1_ := Aside0.mk (hb); have n2_ := Aside0.mk (ho); clear HO242; clear HB; clear HO_8; have HO242 := n0_; have HB := n1_; have HO248 := n2_; clear n0_ n1_ n2_; clear ho hb hg hat; obtain ⟨Ao63, co63, eo63⟩ := Kd.R_slice HO248.out; subst eo63) | (go_at_call 14; (with_reducible refine (indicators_Consistent.calls kj29 _ _ y246 _ _ l1 t249 _ ?side1 ?side2 ?side3 ?side4 A55.out).mono ?_); (case side1 => repeat (first | exact (Kd.R_reads' HO248.out).2.2 | (with_reducible refine Kd.C_alloc ?_ _) | (with_reducible refine Kd.C_drewN ?_ _) | (with_reducible refine Kd.C_drew ?_))); (case side2 => exact (Kd.R_reads' HO248.out).2.1); (case side3 => repeat (first | exact (Kd.C_below HR1.out HB.out) | (with_reducible refine Kd.C_alloc ?_ _) | (with_reducible refine Kd.C_drewN ?_ _) | (with_reducible refine Kd.C_drew ?_))); (case side4 => exact HC1.out); rintro e w' ⟨rfl, ⟨nd, rfl⟩⟩))
                                          go_ret
                                          exact ⟨by first | rfl | (simp [errW_none, errW_some] <;> rfl) | (simp only [← hji46]; first | rfl | (simp [errW_none, errW_some] <;> rfl)) | (simp [*, errW_none, errW_some] <;> rfl), by repeat (first | (with_reducible first | exact HB.out | apply below_alloc | apply pw_below_drewN | apply below_drew1) | exact HB.out)⟩
                                        · rw [if_neg c54] at H
                                          exact absurd H (by simp)
                                      · replace c53 := Bool.eq_false_iff.mpr c53
                                        subst c53
                                        have H1 : (none) = some r := by rw [if_neg (show ¬ (false = true) by decide)] at H; exact H
                                        clear H
                                        have H := H1
                                        clear H1
                                        exact absurd H (by simp)
                                    · replace c51 := Bool.eq_false_iff.mpr c51
                                      subst c51
                                      have H1 : (none) = some r := by rw [if_neg (show ¬ (false = true) by decide)] at H; exact H
                                      clear H
                                      have H := H1
                                      clear H1
                                      exact absurd H (by simp)
                                  · rw [if_neg c48] at H
                                    exact absurd H (by simp)
                                · rw [if_neg c47] at H
                                  exact absurd H (by simp)
                            · rw [if_neg c44] at H
                              have c44b0 : decide (0 < (y240.length : Int)) = false := decide_eq_false c44
                              have c44b1 : decide (0 < y240.length) = false := decide_eq_false (by omega)
                              clear c44
                              replace H := Option.bind_eq_some_iff.mp H
                              obtain ⟨t250, A640, H⟩ := H
                              replace H : (if t250 = true then ((indicators_Consistent.f kj29 l0 y240).bind fun t251 => (if t251 = true then (if x8_29.length < 140737488355328 then ((indicators_Consistent.f kj29 (x8_29 ++ [false]) l1).bind fun t255 => (some t255)) else (none)) else (none))) else (none)) = some r := H
                              have A64 := Aside0.mk A640
                              clear A640
                              by_cases c65 : t250 = true
                              · subst c65
                                have H1 : ((indicators_Consistent.f kj29 l0 y240).bind fun t251 => (if t251 = true then (if x8_29.length < 140737488355328 then ((indicators_Consistent.f kj29 (x8_29 ++ [false]) l1).bind fun t255 => (some t255)) else (none)) else (none))) = some r := by rw [if_pos rfl] at H; exact H
                                clear H
                                have H := H1
                                clear H1
                                replace H := Option.bind_eq_some_iff.mp H
                                obtain ⟨t251, A660, H⟩ := H
                                replace H : (if t251 = true then (if x8_29.length < 140737488355328 then ((indicators_Consistent.f kj29 (x8_29 ++ [false]) l1).bind fun t255 => (some t255)) else (none)) else (none)) = some r := H
                                have A66 := Aside0.mk A660
                                clear A660
                                by_cases c67 : t251 = true
                                · subst c67
                                  have H1 : (if x8_29.length < 140737488355328 then ((indicators_Consistent.f kj29 (x8_29 ++ [false]) l1).bind fun t255 => (some t255)) else (none)) = some r := by rw [if_pos rfl] at H; exact H
                                  clear H
                                  have H := H1
                                  clear H1
                                  by_cases c68 : x8_29.length < 140737488355328
                                  · rw [if_pos c68] at H
                                    have LMc68 := Aside0.mk c68
                                    clear c68
                                    obtain ⟨y252, hy252⟩ : ∃ y_ : List Bool, y_ = (x8_29 ++ [false]) := ⟨_, rfl⟩
                                    replace H : ((indicators_Consistent.f kj29 y252 l1).bind fun t255 => (some t255)) = some r := by first | (rw [hy252]; with_reducible exact H) | (have H2_ := (Option.bind_some _ _).symm.trans H; rw [hy252]; with_reducible exact H2_) | (have H2_ := (Option.bind_some _ _).symm.trans H; with_reducible exact H2_) | with_reducible exact H | (rw [hy252]; exact H) | exact H
                                    have Ny252 := Aside0.mk hy252
                                    clear hy252
                                    replace H := Option.bind_eq_some_iff.mp H
                                    obtain ⟨t255, A690, H⟩ := H
                                    replace H : (some t255) = some r := H
                                    have A69 := Aside0.mk A690
                                    clear A690
                                    obtain rfl := Option.some.inj H
                                    go_wp2_with (first | ((with_reducible refine gate_dst (N := 58) rfl ?_); (try (refine gate_guard (by rfl) ?_; dsimp only)); refine Kd.R_lit Kd.bool _ 4 ?hg (N := 58) ?hd (xs := ([] : List Bool)) (inner := []) (ok := fun _ => True) (okp := fun _ => True) ?hr ?hp (fun _ hk => hk) trivial (Below.refl _ _) (Nat.le_refl _) (by simp) ?_; (case hd => rfl); (case hg => rfl); (case hr => first | (go_simp; done) | (go_simp; rfl)); (case hp => exact (Reps.none _ _)); intro v238 w70 ho71 hb hg_ hnew_; clear hg_ hnew_; (first | rw [← Ny237.out] at ho71 | (simp only [Int.reduceToNat] at ho71; rw [← Ny237.out] at ho71)); have n0_ := Aside0.mk (Kd.R_elder' (by (with_reducible repeat (first | apply Kd.R_alloc | apply Kd.R_drewN | apply Kd.R_drew)); exact HO_8.out) (Kd.R_base ho71) hb); have n1_ := Aside0.mk (Kd.R_lower (Kd.R_new' ho71 (Kd.R_lt (by (with_reducible repeat (first | apply Kd.R_alloc | apply Kd.R_drewN | apply Kd.R_drew)); exact HO_8.out))) (below_size (by repeat (first | (with_reducible first | exact HB.out | apply below_alloc | apply pw_below_drewN | apply below_drew1) | exact HB.out)))); have n2_ := Aside0.mk (below_step (by repeat (first | (with_reducible first | exact HB.out | apply below_alloc | apply pw_below_drewN | apply below_drew1) | exact HB.out)) hb); clear HO_8; clear HB; have HO_8 := n0_; have HO239 := n1_; have HB := n2_; clear n0_ n1_ n2_; clear hb ho71) | ((with_reducible refine gate_builtin (b := .append) (xs := #[.tmp 58, .tmp 59]) rfl ?_); (try (refine gate_guard (by rfl) ?_; dsimp only)); at_builtin; refine Kd.R_append_rows Kd.bool (w0 := w) w.heap.size rfl (.tmp 58) (.tmp 59) 23 4 (.bool false) 1 rfl Tryd.underlying23 info4 rfl (by decide) (by omega) v238 y237 l1 _ _ _ (fun k_ => some k_ ≠ (.slice Ao34 x8_29.length co34 : Value).ownBlock) (fun _ => False) rfl rfl ?aO ?aR (fun _ _ h => h) (fun _ h => h.elim) ?aF ?aB ?aS ?aL ?_; (case aR => repeat (first | exact (Kd.C_below HR1.out HB.out) | (with_reducible refine Kd.C_alloc ?_ _) | (with_reducible refine Kd.C_drewN ?_ _) | (with_reducible refine Kd.C_drew ?_))); (case aB => exact (by repeat (first | (with_reducible first | exact HB.out | apply below_alloc | apply pw_below_drewN | apply below_drew1) | exact HB.out))); (case aF => exact (fun k_ hk => Kd.fresh' (Kd.R_lt (by (with_reducible repeat (first | apply Kd.R_alloc | apply Kd.R_drewN | apply Kd.R_drew)); exact HO_8.out)) k_ hk)); (case aO => exact (by (with_reducible repeat (first | apply Kd.R_alloc | apply Kd.R_drewN | apply Kd.R_drew)); exact Kd.R_mono HO239.out (fun _ hk => hk.2))); (case aS => exact (below_size (by repeat (first | (with_reducible first | exact HB.out | apply below_alloc | apply pw_below_drewN | apply below_drew1) | exact HB.out)))); (case aL => have := LMc43.out; omega); intro v241 w72 ho hb hg hat; rw [← Ny240.out] at ho; have n0_ := Aside0.mk (Kd.R_after (ok := (fun _ => True)) (by (with_reducible repeat (first | apply Kd.R_alloc | apply Kd.R_drewN | apply Kd.R_drew)); exact HO_8.out) hg hat); have n1_ := Aside0.mk (hb); have n2_ := Aside0.mk (ho); clear HO_8; clear HB; clear HO239; have HO_8 := n0_; have HB := n1_; have HO242 := n2_; clear n0_ n1_ n2_; clear ho hb hg hat; obtain ⟨Ao73, co73, eo73⟩ := Kd.R_slice HO242.out; subst eo73) | (go_at_call 14; (with_reducible refine (indicators_Consistent.calls kj29 _ _ x8_29 _ _ l1 true _ ?side1 ?side2 ?side3 ?side4 A64.out).mono ?_); (case side1 => repeat (first | exact (Kd.R_reads' HO_8.out).2.2 | (with_reducible refine Kd.C_alloc ?_ _) | (with_reducible refine Kd.C_drewN ?_ _) | (with_reducible refine Kd.C_drew ?_))); (case side2 => exact (Kd.R_reads' HO_8.out).2.1); (case side3 => repeat (first | exact (Kd.C_below HR1.out HB.out) | (with_reducible refine Kd.C_alloc ?_ _) | (with_reducible refine Kd.C_drewN ?_ _) | (with_reducible refine Kd.C_drew ?_))); (case side4 => exact HC1.out); rintro e w' ⟨rfl, ⟨nd, rfl⟩⟩) | (go_at_call 14; (with_reducible refine (indicators_Consistent.calls kj29 _ _ l0 _ _ y240 true _ ?side1 ?side2 ?side3 ?side4 A66.out).mono ?_); (case side1 => repeat (first | exact (Kd.C_below HR0.out (by repeat (first | (with_reducible first | exact HB.out | apply below_alloc | apply pw_below_drewN | apply below_drew1) | exact HB.out))) | (with_reducible refine Kd.C_alloc ?_ _) | (with_reducible refine Kd.C_drewN ?_ _) | (with_reducible refine Kd.C_drew ?_))); (case side2 => exact HC0.out); (case side3 => repeat (first | exact (Kd.R_reads' HO242.out).2.2 | (with_reducible refine Kd.C_alloc ?_ _) | (with_reducible refine Kd.C_drewN ?_ _) | (with_reducible refine Kd.C_drew ?_))); (case side4 => exact (Kd.R_reads' HO242.out).2.1); rintro e w' ⟨rfl, ⟨nd, rfl⟩⟩) | ((with_reducible refine gate_builtin (b := .append) (xs := #[.tmp 80, .tmp 81]) rfl ?_); (try (refine gate_guard (by rfl) ?_; dsimp only)); at_builtin; refine Kd.R_append Kd.bool (w0 := w) w.heap.size rfl (.tmp 80) (.tmp 81) 23 4 (.bool false) 1 rfl Tryd.underlying23 info4 rfl (by decide) (by omega) (.slice Ao34 x8_29.length co34) x8_29 false [.bool false] (fun k_ => some k_ ≠ (.slice Ao73 y240.length co73 : Value).ownBlock) (fun _ => False) rfl rfl ?aP (fun _ hk => hk.elim) ?aF ?aO ?aB ?aS ?aL ?_; (case aP => exact rfl); (case aB => exact (by repeat (first | (with_reducible first | exact HB.out | apply below_alloc | apply pw_below_drewN | apply below_drew1) | exact HB.out))); (case aF => exact (fun k_ hk => Kd.fresh' (Kd.R_lt (by (with_reducible repeat (first | apply Kd.R_alloc | apply Kd.R_drewN | apply Kd.R_drew)); exact HO242.out)) k_ hk)); (case aO => exact (by (with_reducible repeat (first | apply Kd.R_alloc | apply Kd.R_drewN | apply Kd.R_drew)); exact Kd.R_mono HO_8.out (fun _ hk => hk.2))); (case aS => exact (below_size (by repeat (first | (with_reducible first | exact HB.out | apply below_alloc | apply pw_below_drewN | apply below_drew1) | exact HB.out)))); (case aL => have := LMc68.out; omega); intro v253 w74 ho hb hg hat; rw [← Ny252.out] at ho; have n0_ := Aside0.mk (Kd.R_after (ok := (fun _ => True)) (by (with_reducible repeat (first | apply Kd.R_alloc | apply Kd.R_drewN | apply Kd.R_drew)); exact Kd.R_mono HO242.out (fun _ hk => ⟨trivial, hk⟩)) hg hat); have n1_ := Aside0.mk (hb); have n2_ := Aside0.mk (ho); clear HO242; clear HB; clear HO_8; have HO242 := n0_; have HB := n1_; have HO254 := n2_; clear n0_ n1_ n2_; clear ho hb hg hat; obtain ⟨Ao75, co75, eo75⟩ := Kd.R_slice HO254.out; subst eo75) | (go_at_call 14; (with_reducible refine (indicators_Consistent.calls kj29 _ _ y252 _ _ l1 t255 _ ?side1 ?side2 ?side3 ?side4 A69.out).mono ?_); (case side1 => repeat (first | exact (Kd.R_reads' HO254.out).2.2 | (with_reducible refine Kd.C_alloc ?_ _) | (with_reducible refine Kd.C_drewN ?_ _) | (with_reducible refine Kd.C_drew ?_))); (case side2 => exact (Kd.R_reads' HO254.out).2.1); (case side3 => repeat (first | exact (Kd.C_below HR1.out HB.out) | (with_reducible refine Kd.C_alloc ?_ _) | (with_reducible refine Kd.C_drewN ?_ _) | (with_reducible refine Kd.C_drew ?_))); (case side4 => exact HC1.out); rintro e w' ⟨rfl, ⟨nd, rfl⟩⟩))
                                    go_ret
                                    exact ⟨by first | rfl | (simp [errW_none, errW_some] <;> rfl) | (simp [*, errW_none, errW_some] <;> rfl), by repeat (first | (with_reducible first | exact HB.out | apply below_alloc | apply pw_below_drewN | apply below_drew1) | exact HB.out)⟩
                                  · rw [if_neg c68] at H
                                    exact absurd H (by simp)
                                · replace c67 := Bool.eq_false_iff.mpr c67
                                  subst c67
                                  have H1 : (none) = some r := by rw [if_neg (show ¬ (false = true) by decide)] at H; exact H
                                  clear H
                                  have H := H1
                                  clear H1
                                  exact absurd H (by simp)
                              · replace c65 := Bool.eq_false_iff.mpr c65
                                subst c65
                                have H1 : (none) = some r := by rw [if_neg (show ¬ (false = true) by decide)] at H; exact H
                                clear H
                                have H := H1
                                clear H1
                                exact absurd H (by simp)
                          · rw [if_neg c43] at H
                            exact absurd H (by simp)
                    · rw [if_neg c29] at H
                      exact absurd H (by simp)
                  · replace c28 := Bool.eq_false_iff.mpr c28
                    subst c28
                    have H1 : (some true) = some r := by rw [if_neg (show ¬ (false = true) by decide)] at H; exact H
                    clear H
                    have H := H1
                    clear H1
                    obtain rfl := Option.some.inj H
                    go_wp2_with (first | ((with_reducible refine gate_callee (f := 14) rfl ?_); refine goesL_ (some 43) rfl rfl Tryd.func14 (by kernel_rfl) rfl #[.slice A0 l0.length c0, .slice A1 l1.length c1] rfl (by (try simp only [List.map_toArray, List.map_cons, List.map_nil]); first | done | rfl | (simp only [List.length_drop, List.length_take]; rfl)) ?_; (with_reducible refine (indicators_Consistent.calls kj15 _ _ l0 _ _ l1 false _ ?side1 ?side2 ?side3 ?side4 A27.out).mono ?_); (case side1 => repeat (first | exact (Kd.C_below HR0.out HB.out) | (with_reducible refine Kd.C_alloc ?_ _) | (with_reducible refine Kd.C_drewN ?_ _) | (with_reducible refine Kd.C_drew ?_))); (case side2 => exact HC0.out); (case side3 => repeat (first | exact (Kd.C_below HR1.out HB.out) | (with_reducible refine Kd.C_alloc ?_ _) | (with_reducible refine Kd.C_drewN ?_ _) | (with_reducible refine Kd.C_drew ?_))); (case side4 => exact HC1.out); rintro e w' ⟨rfl, ⟨nd, rfl⟩⟩; refine ⟨_, rfl, ?_⟩))
                    go_ret
                    exact ⟨by first | rfl | (simp [errW_none, errW_some] <;> rfl) | (simp [*, errW_none, errW_some] <;> rfl), by repeat (first | (with_reducible first | exact HB.out | apply below_alloc | apply pw_below_drewN | apply below_drew1) | exact HB.out)⟩
          · rw [if_neg c15] at H
            exact absurd H (by simp)
        · rw [if_neg c14] at H
          exact absurd H (by simp)

/-- THE ONE PURE STATEMENT of zoneinfolaw18_IndicatorsConsistency: yours. -/
def zoneinfolaw18_IndicatorsConsistency.Pure : Prop := ∀ (l0 : List Bool) (l1 : List Bool) (a2 : Int), l0.length ≤ maxLen → l0.length * 1 ≤ 140737488351232 → l1.length ≤ maxLen → l1.length * 1 ≤ 140737488351232 → (Lit.int .u16 a2).wf = true → ∃ k, zoneinfolaw18_IndicatorsConsistency.f k l0 l1 a2 = some true
theorem zoneinfolaw18_IndicatorsConsistency.walk (P : zoneinfolaw18_IndicatorsConsistency.Pure) (a0 : Option Addr) (len0 cap0 : Nat) (z0 : List Bool) (a1 : Option Addr) (len1 cap1 : Nat) (z1 : List Bool) (a2 : Int) (w : World) (hgl : GL w) (w0 : (a0 = none ∧ len0 = 0 ∧ cap0 = 0 ∧ z0 = []) ∨ ∃ x, a0 = some x ∧ len0 ≤ cap0 ∧ cap0 ≤ maxLen ∧ z0.length = cap0 ∧ ∀ i, i < z0.length → w.cell? (x.add i) = some (.bool (z0.getD i false))) (y0 : len0 * 1 ≤ 140737488351232) (w1 : (a1 = none ∧ len1 = 0 ∧ cap1 = 0 ∧ z1 = []) ∨ ∃ x, a1 = some x ∧ len1 ≤ cap1 ∧ cap1 ≤ maxLen ∧ z1.length = cap1 ∧ ∀ i, i < z1.length → w.cell? (x.add i) = some (.bool (z1.getD i false))) (y1 : len1 * 1 ≤ 140737488351232) (w2 : (Lit.int .u16 a2).wf = true) :
    Calls Tryd.prog 5 #[.slice a0 len0 cap0, .slice a1 len1 cap1, .int .u16 a2] w fun e w' => e = .returned (.bool true) ∧ Below w.heap.size w w' := by
  obtain ⟨l0, rfl, hr0, hm0, hc0⟩ := ofBoolRow w0
  obtain ⟨l1, rfl, hr1, hm1, hc1⟩ := ofBoolRow w1
  obtain ⟨k, h⟩ := P l0 l1 a2 hm0 y0 hm1 y1 w2
  refine (zoneinfolaw18_IndicatorsConsistency.calls k _ _ l0 _ _ l1 a2 true w (Kd.C_of_reads (d := false) (h1 := fun _ => rfl) hr0) hc0 (Kd.C_of_reads (d := false) (h1 := fun _ => rfl) hr1) hc1 hgl h).mono ?_
  rintro e w' ⟨rfl, hd⟩
  exact ⟨rfl, hd⟩

end Go.Proofs.YtbiglbdanppjpaaDoor.G
