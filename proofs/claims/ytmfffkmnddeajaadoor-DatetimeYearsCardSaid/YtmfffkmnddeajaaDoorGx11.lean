/- Written by a program of this session for this seat: contracts of the functions that its laws reach, or the row of a law over its plain part. -/
import Derived.Test.YtmfffkmnddeajaaDoorGx0
import Derived.Test.YtmfffkmnddeajaaDoorGx2
import Derived.Test.YtmfffkmnddeajaaDoorGx4
import Derived.Test.YtmfffkmnddeajaaDoorGx5
import Derived.Test.YtmfffkmnddeajaaDoorGx6
namespace Go.Proofs.YtmfffkmnddeajaaDoor.G
open Go.RowKit Go.Proofs.YtmfffkmnddeajaaDoorW.PrintWords Go.Proofs.YtmfffkmnddeajaaDoorW.PrintLast Go.Proofs.YtmfffkmnddeajaaDoorW.PrintMore
attribute [local go_sem] max2_int min2_int max_two min_two max_three min_three max_four min_four   -- for this text's walks alone
set_option linter.unusedVariables false
set_option linter.unusedSimpArgs false

/-! ### zoneinfolaw05_DatetimeYears: function 6 -/
mutual
def zoneinfolaw05_DatetimeYears.j0 : Nat → Int → Bool → Option (Bool)
  | 0, _, _ => none
  | k + 1, x0, x15 => if x15 = true then ((zoneinfolaw05_awake.f k).bind fun t255 => (some t255)) else ((datetime_YearOf.f x0).bind fun t256 => (if t256 > 549755813888 then (zoneinfolaw05_DatetimeYears.j1 k x0 t256 true) else (zoneinfolaw05_DatetimeYears.j1 k x0 t256 (decide (t256 < (-549755813888))))))
def zoneinfolaw05_DatetimeYears.j1 : Nat → Int → Int → Bool → Option (Bool)
  | 0, _, _, _ => none
  | k + 1, x0, x3, x24 => if x24 = true then (none) else ((zoneinforef04_Days.f k x3 1 1).bind fun t257 => ((zoneinforef04_Days.f k (wrap64 (x3 + 1)) 1 1).bind fun t258 => (if (wrap64 (t257 * 86400)) ≤ x0 then (if x0 < (wrap64 (t258 * 86400)) then ((datetime_YearOf.f (wrap64 (t257 * 86400))).bind fun t259 => (if t259 = x3 then ((datetime_YearOf.f (wrap64 (t258 * 86400))).bind fun t260 => (if t260 = (wrap64 (x3 + 1)) then ((datetime_YearOf.f (wrap64 ((wrap64 (t258 * 86400)) - 1))).bind fun t261 => (some (t261 == x3))) else (none))) else (none))) else (none)) else (none))))
end
def zoneinfolaw05_DatetimeYears.f (k : Nat) (a0 : Int) : Option (Bool) := (zoneinfolaw05_awake.f k).bind fun t254 => (if t254 = true then (if a0 > 4611686018427387904 then (zoneinfolaw05_DatetimeYears.j0 k a0 true) else (zoneinfolaw05_DatetimeYears.j0 k a0 (decide (a0 < (-4611686018427387904))))) else (zoneinfolaw05_DatetimeYears.j0 k a0 true))
theorem zoneinfolaw05_DatetimeYears.mono_l : ∀ k, (∀ y0 y1, LeO (zoneinfolaw05_DatetimeYears.j0 k y0 y1) (zoneinfolaw05_DatetimeYears.j0 (k + 1) y0 y1)) ∧ (∀ y0 y1 y2, LeO (zoneinfolaw05_DatetimeYears.j1 k y0 y1 y2) (zoneinfolaw05_DatetimeYears.j1 (k + 1) y0 y1 y2))
  | 0 => ⟨fun _ _ r h => by simp [zoneinfolaw05_DatetimeYears.j0] at h, fun _ _ _ r h => by simp [zoneinfolaw05_DatetimeYears.j1] at h⟩
  | k + 1 => by
    obtain ⟨ih0, ih1⟩ := zoneinfolaw05_DatetimeYears.mono_l k
    refine ⟨?_, ?_⟩
    · intro y0 y1
      unfold zoneinfolaw05_DatetimeYears.j0
      repeat' first
      | (with_reducible exact ih0 _ _)
      | (with_reducible exact ih1 _ _ _)
      | (with_reducible exact zoneinfolaw05_awake.mono _)
      | (with_reducible exact zoneinforef04_Days.mono _ _ _ _)
      | (with_reducible exact LeO.refl _)
      | (with_reducible exact LeO.none _)
      | (with_reducible refine LeO.ite ?_ ?_)
      | (with_reducible refine LeO.bind ?_ (fun _ => ?_))
      | exact ih0 _ _
      | exact ih1 _ _ _
      | exact zoneinfolaw05_awake.mono _
      | exact zoneinforef04_Days.mono _ _ _ _
      | exact LeO.none _
      | refine LeO.ite ?_ ?_
      | refine LeO.bind ?_ (fun _ => ?_)
    · intro y0 y1 y2
      unfold zoneinfolaw05_DatetimeYears.j1
      repeat' first
      | (with_reducible exact ih0 _ _)
      | (with_reducible exact ih1 _ _ _)
      | (with_reducible exact zoneinfolaw05_awake.mono _)
      | (with_reducible exact zoneinforef04_Days.mono _ _ _ _)
      | (with_reducible exact LeO.refl _)
      | (with_reducible exact LeO.none _)
      | (with_reducible refine LeO.ite ?_ ?_)
      | (with_reducible refine LeO.bind ?_ (fun _ => ?_))
      | exact ih0 _ _
      | exact ih1 _ _ _
      | exact zoneinfolaw05_awake.mono _
      | exact zoneinforef04_Days.mono _ _ _ _
      | exact LeO.none _
      | refine LeO.ite ?_ ?_
      | refine LeO.bind ?_ (fun _ => ?_)
theorem zoneinfolaw05_DatetimeYears.mono : ∀ a0 k, LeO (zoneinfolaw05_DatetimeYears.f k a0) (zoneinfolaw05_DatetimeYears.f (k + 1) a0) := by
  intro a0 k
  obtain ⟨ih0, ih1⟩ := zoneinfolaw05_DatetimeYears.mono_l k
  unfold zoneinfolaw05_DatetimeYears.f
  repeat' first
      | (with_reducible exact ih0 _ _)
      | (with_reducible exact ih1 _ _ _)
      | (with_reducible exact zoneinfolaw05_awake.mono _)
      | (with_reducible exact zoneinforef04_Days.mono _ _ _ _)
      | (with_reducible exact LeO.refl _)
      | (with_reducible exact LeO.none _)
      | (with_reducible refine LeO.ite ?_ ?_)
      | (with_reducible refine LeO.bind ?_ (fun _ => ?_))
      | exact ih0 _ _
      | exact ih1 _ _ _
      | exact zoneinfolaw05_awake.mono _
      | exact zoneinforef04_Days.mono _ _ _ _
      | exact LeO.none _
      | refine LeO.ite ?_ ?_
      | refine LeO.bind ?_ (fun _ => ?_)
set_option maxHeartbeats 8000000 in
set_option maxRecDepth 100000 in
theorem zoneinfolaw05_DatetimeYears.calls (k : Nat) (a0 : Int) (r : Bool) (w : World) (hrg : GL w) (h : zoneinfolaw05_DatetimeYears.f k a0 = some r) :
    Calls Tryd.prog 6 #[.int .i64 a0] w fun e w' => e = .returned (.bool r) ∧ Below w.heap.size w w' := by
  have HRg := Aside0.mk hrg
  clear hrg
  have HB := Aside0.mk (Below.refl w.heap.size w)
  have H : ((zoneinfolaw05_awake.f k).bind fun t254 => (if t254 = true then (if a0 > 4611686018427387904 then (zoneinfolaw05_DatetimeYears.j0 k a0 true) else (zoneinfolaw05_DatetimeYears.j0 k a0 (decide (a0 < (-4611686018427387904))))) else (zoneinfolaw05_DatetimeYears.j0 k a0 true))) = some r := h
  clear h
  have HC2 := Aside0.mk H
  clear H
  go_enter Tryd.func6, Tryd.ntmps6
  go_upto_region 1 with (fail)
  go_cut [15] (fun v15 wc => ∃ (kq : Nat) (x15_1 : Bool), v15 = .bool x15_1 ∧ Aside0 (zoneinfolaw05_DatetimeYears.j0 kq a0 x15_1 = some r) ∧ Aside0 (kq ≤ k) ∧ Aside0 (Below w.heap.size w wc))
  case first =>
    have H := HC2.out
    clear HC2
    replace H := Option.bind_eq_some_iff.mp H
    obtain ⟨t254, A30, H⟩ := H
    replace H : (if t254 = true then (if a0 > 4611686018427387904 then (zoneinfolaw05_DatetimeYears.j0 k a0 true) else (zoneinfolaw05_DatetimeYears.j0 k a0 (decide (a0 < (-4611686018427387904))))) else (zoneinfolaw05_DatetimeYears.j0 k a0 true)) = some r := H
    have A3 := Aside0.mk A30
    clear A30
    by_cases c4 : t254 = true
    · subst c4
      have H1 : (if a0 > 4611686018427387904 then (zoneinfolaw05_DatetimeYears.j0 k a0 true) else (zoneinfolaw05_DatetimeYears.j0 k a0 (decide (a0 < (-4611686018427387904))))) = some r := by rw [if_pos rfl] at H; exact H
      clear H
      have H := H1
      clear H1
      by_cases c5 : a0 > 4611686018427387904
      · rw [if_pos c5] at H
        have c5b0 : decide (4611686018427387904 < a0) = true := decide_eq_true c5
        clear c5
        (first | rw [c5b0] | (simp only [i64_w, i32_w]; rw [c5b0]) | skip)
        have H' := Aside0.mk H
        clear H
        go_wp2_with (first | (go_at_call 8; (with_reducible refine (zoneinfolaw05_awake.calls k  true _ ?side1 A3.out).mono ?_); (case side1 => repeat (first | exact (Kd.C_below HRg.out HB.out) | (with_reducible refine Kd.C_alloc ?_ _) | (with_reducible refine Kd.C_drewN ?_ _) | (with_reducible refine Kd.C_drew ?_))); rintro e w6 ⟨rfl, hb⟩; have n0_ := Aside0.mk (below_step (by repeat (first | (with_reducible first | exact HB.out | apply below_alloc | apply pw_below_drewN | apply below_drew1) | exact HB.out)) hb); clear HB; have HB := n0_; clear n0_; (try clear hb); (try clear hb2); (try clear hk); (try clear hi)))
        go_meet
        case rel => exact ⟨_, (true), (by first | rfl | (simp; done) | (simp [*]; done)), H', ⟨by first | omega | exact Nat.le_refl _⟩, ⟨by repeat (first | (with_reducible first | exact HB.out | apply below_alloc | apply pw_below_drewN | apply below_drew1) | exact HB.out)⟩⟩
      · rw [if_neg c5] at H
        have c5b0 : decide (4611686018427387904 < a0) = false := decide_eq_false c5
        clear c5
        (first | rw [c5b0] | (simp only [i64_w, i32_w]; rw [c5b0]) | skip)
        have H' := Aside0.mk H
        clear H
        go_wp2_with (first | (go_at_call 8; (with_reducible refine (zoneinfolaw05_awake.calls k  true _ ?side1 A3.out).mono ?_); (case side1 => repeat (first | exact (Kd.C_below HRg.out HB.out) | (with_reducible refine Kd.C_alloc ?_ _) | (with_reducible refine Kd.C_drewN ?_ _) | (with_reducible refine Kd.C_drew ?_))); rintro e w7 ⟨rfl, hb⟩; have n0_ := Aside0.mk (below_step (by repeat (first | (with_reducible first | exact HB.out | apply below_alloc | apply pw_below_drewN | apply below_drew1) | exact HB.out)) hb); clear HB; have HB := n0_; clear n0_; (try clear hb); (try clear hb2); (try clear hk); (try clear hi)))
        go_meet
        case rel => exact ⟨_, (decide (a0 < (-4611686018427387904))), (by first | rfl | (simp; done) | (simp [*]; done)), H', ⟨by first | omega | exact Nat.le_refl _⟩, ⟨by repeat (first | (with_reducible first | exact HB.out | apply below_alloc | apply pw_below_drewN | apply below_drew1) | exact HB.out)⟩⟩
    · replace c4 := Bool.eq_false_iff.mpr c4
      subst c4
      have H1 : (zoneinfolaw05_DatetimeYears.j0 k a0 true) = some r := by rw [if_neg (show ¬ (false = true) by decide)] at H; exact H
      clear H
      have H := H1
      clear H1
      have H' := Aside0.mk H
      clear H
      go_wp2_with (first | (go_at_call 8; (with_reducible refine (zoneinfolaw05_awake.calls k  false _ ?side1 A3.out).mono ?_); (case side1 => repeat (first | exact (Kd.C_below HRg.out HB.out) | (with_reducible refine Kd.C_alloc ?_ _) | (with_reducible refine Kd.C_drewN ?_ _) | (with_reducible refine Kd.C_drew ?_))); rintro e w8 ⟨rfl, hb⟩; have n0_ := Aside0.mk (below_step (by repeat (first | (with_reducible first | exact HB.out | apply below_alloc | apply pw_below_drewN | apply below_drew1) | exact HB.out)) hb); clear HB; have HB := n0_; clear n0_; (try clear hb); (try clear hb2); (try clear hk); (try clear hi)))
      go_meet
      case rel => exact ⟨_, (true), (by first | rfl | (simp; done) | (simp [*]; done)), H', ⟨by first | omega | exact Nat.le_refl _⟩, ⟨by repeat (first | (with_reducible first | exact HB.out | apply below_alloc | apply pw_below_drewN | apply below_drew1) | exact HB.out)⟩⟩
  case rest =>
    clear HC2
    try clear p2
    try clear c4
    try clear c5
    try clear c5b0
    try clear c6
    obtain ⟨kq, x15_1, rfl, HA, HJ1, HB⟩ := hcut
    cases kq with
    | zero => exact absurd HA.out (by simp [zoneinfolaw05_DatetimeYears.j0])
    | succ kj1 =>
      have H := HA.out
      clear HA
      simp only [zoneinfolaw05_DatetimeYears.j0] at H
      by_cases c9 : x15_1 = true
      · subst c9
        have H1 : ((zoneinfolaw05_awake.f kj1).bind fun t255 => (some t255)) = some r := by rw [if_pos rfl] at H; exact H
        clear H
        have H := H1
        clear H1
        replace H := Option.bind_eq_some_iff.mp H
        obtain ⟨t255, A100, H⟩ := H
        replace H : (some t255) = some r := H
        have A10 := Aside0.mk A100
        clear A100
        obtain rfl := Option.some.inj H
        go_wp2_with (first | ((with_reducible refine gate_callee (f := 8) rfl ?_); refine goesL_ (some 16) rfl rfl Tryd.func8 (by kernel_rfl) rfl #[] rfl (by (try simp only [List.map_toArray, List.map_cons, List.map_nil]); first | done | rfl | (simp only [List.length_drop, List.length_take]; rfl)) ?_; (with_reducible refine (zoneinfolaw05_awake.calls kj1  t255 _ ?side1 A10.out).mono ?_); (case side1 => repeat (first | exact (Kd.C_below HRg.out HB.out) | (with_reducible refine Kd.C_alloc ?_ _) | (with_reducible refine Kd.C_drewN ?_ _) | (with_reducible refine Kd.C_drew ?_))); rintro e w11 ⟨rfl, hb⟩; refine ⟨_, rfl, ?_⟩; have n0_ := Aside0.mk (below_step (by repeat (first | (with_reducible first | exact HB.out | apply below_alloc | apply pw_below_drewN | apply below_drew1) | exact HB.out)) hb); clear HB; have HB := n0_; clear n0_; (try clear hb); (try clear hb2); (try clear hk); (try clear hi)))
        go_ret
        exact ⟨by first | rfl | (simp [errW_none, errW_some] <;> rfl) | (simp [*, errW_none, errW_some] <;> rfl), by repeat (first | (with_reducible first | exact HB.out | apply below_alloc | apply pw_below_drewN | apply below_drew1) | exact HB.out)⟩
      · replace c9 := Bool.eq_false_iff.mpr c9
        subst c9
        have H1 : ((datetime_YearOf.f a0).bind fun t256 => (if t256 > 549755813888 then (zoneinfolaw05_DatetimeYears.j1 kj1 a0 t256 true) else (zoneinfolaw05_DatetimeYears.j1 kj1 a0 t256 (decide (t256 < (-549755813888)))))) = some r := by rw [if_neg (show ¬ (false = true) by decide)] at H; exact H
        clear H
        have H := H1
        clear H1
        replace H := Option.bind_eq_some_iff.mp H
        obtain ⟨t256, A120, H⟩ := H
        replace H : (if t256 > 549755813888 then (zoneinfolaw05_DatetimeYears.j1 kj1 a0 t256 true) else (zoneinfolaw05_DatetimeYears.j1 kj1 a0 t256 (decide (t256 < (-549755813888))))) = some r := H
        have A12 := Aside0.mk A120
        clear A120
        have HC13 := Aside0.mk H
        clear H
        go_upto_region 4 with (first | ((with_reducible refine gate_callee (f := 15) rfl ?_); refine goesL_ (some 18) rfl rfl Tryd.func15 (by kernel_rfl) rfl #[.int .i64 a0] rfl (by (try simp only [List.map_toArray, List.map_cons, List.map_nil]); first | done | rfl | (simp only [List.length_drop, List.length_take]; rfl)) ?_; (with_reducible refine (datetime_YearOf.calls a0 t256 _ A12.out).mono ?_); rintro e w14 ⟨rfl, hb⟩; refine ⟨_, rfl, ?_⟩; have n0_ := Aside0.mk (below_step (by repeat (first | (with_reducible first | exact HB.out | apply below_alloc | apply pw_below_drewN | apply below_drew1) | exact HB.out)) hb); clear HB; have HB := n0_; clear n0_; (try clear hb); (try clear hb2); (try clear hk); (try clear hi)))
        (try simp only [Act.put, List.setIfInBounds_toArray, List.set_cons_zero, List.set_cons_succ])
        go_cut [24] (fun v24 wc => ∃ (kq : Nat) (x24_12 : Bool), v24 = .bool x24_12 ∧ Aside0 (zoneinfolaw05_DatetimeYears.j1 kq a0 t256 x24_12 = some r) ∧ Aside0 (kq ≤ kj1) ∧ Aside0 (Below w.heap.size w wc))
        case first =>
          have H := HC13.out
          clear HC13
          by_cases c15 : t256 > 549755813888
          · rw [if_pos c15] at H
            have c15b0 : decide (549755813888 < t256) = true := decide_eq_true c15
            clear c15
            (first | rw [c15b0] | (simp only [i64_w, i32_w]; rw [c15b0]) | skip)
            have H' := Aside0.mk H
            clear H
            go_wp2
            go_meet
            case rel => exact ⟨_, (true), (by first | rfl | (simp; done) | (simp [*]; done)), H', ⟨by have := HJ1.out; first | omega | exact Nat.le_refl _⟩, ⟨by repeat (first | (with_reducible first | exact HB.out | apply below_alloc | apply pw_below_drewN | apply below_drew1) | exact HB.out)⟩⟩
          · rw [if_neg c15] at H
            have c15b0 : decide (549755813888 < t256) = false := decide_eq_false c15
            clear c15
            (first | rw [c15b0] | (simp only [i64_w, i32_w]; rw [c15b0]) | skip)
            have H' := Aside0.mk H
            clear H
            go_wp2
            go_meet
            case rel => exact ⟨_, (decide (t256 < (-549755813888))), (by first | rfl | (simp; done) | (simp [*]; done)), H', ⟨by have := HJ1.out; first | omega | exact Nat.le_refl _⟩, ⟨by repeat (first | (with_reducible first | exact HB.out | apply below_alloc | apply pw_below_drewN | apply below_drew1) | exact HB.out)⟩⟩
        case rest =>
          clear HC13
          try clear c1
          try clear p2
          try clear c4
          try clear c5
          try clear c5b0
          try clear c6
          try clear c8
          try clear c9
          try clear c15
          try clear c15b0
          try clear p2
          obtain ⟨kq, x24_12, rfl, HA, HJ12, HB⟩ := hcut
          cases kq with
          | zero => exact absurd HA.out (by simp [zoneinfolaw05_DatetimeYears.j1])
          | succ kj12 =>
            have H := HA.out
            clear HA
            simp only [zoneinfolaw05_DatetimeYears.j1] at H
            by_cases c16 : x24_12 = true
            · subst c16
              have H1 : (none) = some r := by rw [if_pos rfl] at H; exact H
              clear H
              have H := H1
              clear H1
              exact absurd H (by simp)
            · replace c16 := Bool.eq_false_iff.mpr c16
              subst c16
              have H1 : ((zoneinforef04_Days.f kj12 t256 1 1).bind fun t257 => ((zoneinforef04_Days.f kj12 (wrap64 (t256 + 1)) 1 1).bind fun t258 => (if (wrap64 (t257 * 86400)) ≤ a0 then (if a0 < (wrap64 (t258 * 86400)) then ((datetime_YearOf.f (wrap64 (t257 * 86400))).bind fun t259 => (if t259 = t256 then ((datetime_YearOf.f (wrap64 (t258 * 86400))).bind fun t260 => (if t260 = (wrap64 (t256 + 1)) then ((datetime_YearOf.f (wrap64 ((wrap64 (t258 * 86400)) - 1))).bind fun t261 => (some (t261 == t256))) else (none))) else (none))) else (none)) else (none)))) = some r := by rw [if_neg (show ¬ (false = true) by decide)] at H; exact H
              clear H
              have H := H1
              clear H1
              replace H := Option.bind_eq_some_iff.mp H
              obtain ⟨t257, A170, H⟩ := H
              replace H : ((zoneinforef04_Days.f kj12 (wrap64 (t256 + 1)) 1 1).bind fun t258 => (if (wrap64 (t257 * 86400)) ≤ a0 then (if a0 < (wrap64 (t258 * 86400)) then ((datetime_YearOf.f (wrap64 (t257 * 86400))).bind fun t259 => (if t259 = t256 then ((datetime_YearOf.f (wrap64 (t258 * 86400))).bind fun t260 => (if t260 = (wrap64 (t256 + 1)) then ((datetime_YearOf.f (wrap64 ((wrap64 (t258 * 86400)) - 1))).bind fun t261 => (some (t261 == t256))) else (none))) else (none))) else (none)) else (none))) = some r := H
              have A17 := Aside0.mk A170
              clear A170
              replace H := Option.bind_eq_some_iff.mp H
              obtain ⟨t258, A180, H⟩ := H
              replace H : (if (wrap64 (t257 * 86400)) ≤ a0 then (if a0 < (wrap64 (t258 * 86400)) then ((datetime_YearOf.f (wrap64 (t257 * 86400))).bind fun t259 => (if t259 = t256 then ((datetime_YearOf.f (wrap64 (t258 * 86400))).bind fun t260 => (if t260 = (wrap64 (t256 + 1)) then ((datetime_YearOf.f (wrap64 ((wrap64 (t258 * 86400)) - 1))).bind fun t261 => (some (t261 == t256))) else (none))) else (none))) else (none)) else (none)) = some r := H
              have A18 := Aside0.mk A180
              clear A180
              by_cases c19 : (wrap64 (t257 * 86400)) ≤ a0
              · rw [if_pos c19] at H
                have c19b0 : decide ((wrap64 (t257 * 86400)) ≤ a0) = true := decide_eq_true c19
                clear c19
                by_cases c20 : a0 < (wrap64 (t258 * 86400))
                · rw [if_pos c20] at H
                  have c20b0 : decide (a0 < (wrap64 (t258 * 86400))) = true := decide_eq_true c20
                  clear c20
                  replace H := Option.bind_eq_some_iff.mp H
                  obtain ⟨t259, A210, H⟩ := H
                  replace H : (if t259 = t256 then ((datetime_YearOf.f (wrap64 (t258 * 86400))).bind fun t260 => (if t260 = (wrap64 (t256 + 1)) then ((datetime_YearOf.f (wrap64 ((wrap64 (t258 * 86400)) - 1))).bind fun t261 => (some (t261 == t256))) else (none))) else (none)) = some r := H
                  have A21 := Aside0.mk A210
                  clear A210
                  by_cases c22 : t259 = t256
                  · rw [if_pos c22] at H
                    have c22b0 : (t259 == t256) = true := beq_iff_eq.mpr c22
                    have c22b1 : (t259 != t256) = false := bne_eq_false_iff_eq.mpr c22
                    clear c22
                    replace H := Option.bind_eq_some_iff.mp H
                    obtain ⟨t260, A230, H⟩ := H
                    replace H : (if t260 = (wrap64 (t256 + 1)) then ((datetime_YearOf.f (wrap64 ((wrap64 (t258 * 86400)) - 1))).bind fun t261 => (some (t261 == t256))) else (none)) = some r := H
                    have A23 := Aside0.mk A230
                    clear A230
                    by_cases c24 : t260 = (wrap64 (t256 + 1))
                    · rw [if_pos c24] at H
                      have c24b0 : (t260 == (wrap64 (t256 + 1))) = true := beq_iff_eq.mpr c24
                      have c24b1 : (t260 != (wrap64 (t256 + 1))) = false := bne_eq_false_iff_eq.mpr c24
                      clear c24
                      replace H := Option.bind_eq_some_iff.mp H
                      obtain ⟨t261, A250, H⟩ := H
                      replace H : (some (t261 == t256)) = some r := H
                      have A25 := Aside0.mk A250
                      clear A250
                      obtain rfl := Option.some.inj H
                      go_wp2_with (first | ((with_reducible refine gate_callee (f := 17) rfl ?_); refine goesL_ (some 26) rfl rfl Tryd.func17 (by kernel_rfl) rfl #[.int .i64 t256, .int .i64 1, .int .i64 1] rfl (by (try simp only [List.map_toArray, List.map_cons, List.map_nil]); first | done | rfl | (simp only [List.length_drop, List.length_take]; rfl)) ?_; (with_reducible refine (zoneinforef04_Days.calls kj12 t256 1 1 t257 _ A17.out).mono ?_); rintro e w' ⟨rfl, ⟨nd, rfl⟩⟩; refine ⟨_, rfl, ?_⟩) | ((with_reducible refine gate_callee (f := 17) rfl ?_); refine goesL_ (some 30) rfl rfl Tryd.func17 (by kernel_rfl) rfl #[.int .i64 (wrap64 (t256 + 1)), .int .i64 1, .int .i64 1] rfl (by (try simp only [List.map_toArray, List.map_cons, List.map_nil]); first | done | rfl | (simp only [List.length_drop, List.length_take]; rfl)) ?_; (with_reducible refine (zoneinforef04_Days.calls kj12 (wrap64 (t256 + 1)) 1 1 t258 _ A18.out).mono ?_); rintro e w' ⟨rfl, ⟨nd, rfl⟩⟩; refine ⟨_, rfl, ?_⟩) | (go_at_call 15; (with_reducible refine (datetime_YearOf.calls (wrap64 (t257 * 86400)) t259 _ A21.out).mono ?_); rintro e w26 ⟨rfl, hb⟩; have n0_ := Aside0.mk (below_step (by repeat (first | (with_reducible first | exact HB.out | apply below_alloc | apply pw_below_drewN | apply below_drew1) | exact HB.out)) hb); clear HB; have HB := n0_; clear n0_; (try clear hb); (try clear hb2); (try clear hk); (try clear hi)) | (go_at_call 15; (with_reducible refine (datetime_YearOf.calls (wrap64 (t258 * 86400)) t260 _ A23.out).mono ?_); rintro e w27 ⟨rfl, hb⟩; have n0_ := Aside0.mk (below_step (by repeat (first | (with_reducible first | exact HB.out | apply below_alloc | apply pw_below_drewN | apply below_drew1) | exact HB.out)) hb); clear HB; have HB := n0_; clear n0_; (try clear hb); (try clear hb2); (try clear hk); (try clear hi)) | (go_at_call 15; (with_reducible refine (datetime_YearOf.calls (wrap64 ((wrap64 (t258 * 86400)) - 1)) t261 _ A25.out).mono ?_); rintro e w28 ⟨rfl, hb⟩; have n0_ := Aside0.mk (below_step (by repeat (first | (with_reducible first | exact HB.out | apply below_alloc | apply pw_below_drewN | apply below_drew1) | exact HB.out)) hb); clear HB; have HB := n0_; clear n0_; (try clear hb); (try clear hb2); (try clear hk); (try clear hi)))
                      go_ret
                      exact ⟨by first | rfl | (simp [errW_none, errW_some] <;> rfl) | (simp [*, errW_none, errW_some] <;> rfl), by repeat (first | (with_reducible first | exact HB.out | apply below_alloc | apply pw_below_drewN | apply below_drew1) | exact HB.out)⟩
                    · rw [if_neg c24] at H
                      exact absurd H (by simp)
                  · rw [if_neg c22] at H
                    exact absurd H (by simp)
                · rw [if_neg c20] at H
                  exact absurd H (by simp)
              · rw [if_neg c19] at H
                exact absurd H (by simp)

/-- THE ONE PURE STATEMENT of zoneinfolaw05_DatetimeYears: yours. -/
def zoneinfolaw05_DatetimeYears.Pure : Prop := ∀ (a0 : Int), (Lit.int .i64 a0).wf = true → ∃ k, zoneinfolaw05_DatetimeYears.f k a0 = some true
theorem zoneinfolaw05_DatetimeYears.walk (P : zoneinfolaw05_DatetimeYears.Pure) (a0 : Int) (w : World) (hgl : GL w) (w0 : (Lit.int .i64 a0).wf = true) :
    Calls Tryd.prog 6 #[.int .i64 a0] w fun e w' => e = .returned (.bool true) ∧ Below w.heap.size w w' := by
  obtain ⟨k, h⟩ := P a0 w0
  refine (zoneinfolaw05_DatetimeYears.calls k a0 true w hgl h).mono ?_
  rintro e w' ⟨rfl, hd⟩
  exact ⟨rfl, hd⟩

end Go.Proofs.YtmfffkmnddeajaaDoor.G
