/- Written by a program of this session for this seat: contracts of the functions that its laws reach, or the row of a law over its plain part. -/
import Derived.Test.YtbiglbdanppjpaaDoorGx0
import Derived.Test.YtbiglbdanppjpaaDoorGx1
import Derived.Test.YtbiglbdanppjpaaDoorGx2
import Derived.Test.YtbiglbdanppjpaaDoorGx3
namespace Go.Proofs.YtbiglbdanppjpaaDoor.G
open Go.RowKit Go.Proofs.YtbiglbdanppjpaaDoorW.PrintWords Go.Proofs.YtbiglbdanppjpaaDoorW.PrintLast Go.Proofs.YtbiglbdanppjpaaDoorW.PrintMore
attribute [local go_sem] max2_int min2_int max_two min_two max_three min_three max_four min_four   -- for this text's walks alone
set_option linter.unusedVariables false
set_option linter.unusedSimpArgs false

/-! ### zoneinfolaw18_IndicatorsConcatenate: function 6 -/
def zoneinfolaw18_IndicatorsConcatenate.j0 : Nat → List Bool → List Bool → Bool → Option (Bool)
  | 0, _, _, _ => none
  | k + 1, x0, x1, x18 => if x18 = true then ((zoneinfolaw18_awake.f k).bind fun t257 => (some t257)) else ((some (([] : List Bool) : List Bool)).bind fun y258 => (if y258.length + x0.length < 140737488355328 then ((some (y258 ++ x0 : List Bool)).bind fun y261 => (if y261.length + x1.length < 140737488355328 then ((some (([] : List Int) : List Int)).bind fun y267 => ((indicators_Encode.f k x0).bind fun t270 => (if y267.length + t270.length < 140737488355328 then ((some (y267 ++ t270 : List Int)).bind fun y273 => ((indicators_Encode.f k x1).bind fun t276 => (if y273.length + t276.length < 140737488355328 then ((indicators_Encode.f k (y261 ++ x1)).bind fun t282 => ((zoneinforef01_Same.f k t282 (y273 ++ t276)).bind fun t285 => (if t285 = true then ((indicators_Encode.f k x0).bind fun t286 => ((indicators_Encode.f k x1).bind fun t289 => ((zoneinforef01_Same.f k t286 t289).bind fun t292 => ((zoneinforef18_Same.f k x0 x1).bind fun t293 => (some (t292 == t293)))))) else (none)))) else (none)))) else (none)))) else (none))) else (none)))
def zoneinfolaw18_IndicatorsConcatenate.f (k : Nat) (l0 : List Bool) (l1 : List Bool) : Option (Bool) := (zoneinfolaw18_awake.f k).bind fun t256 => (if t256 = true then (if (l0.length : Int) > 500 then (zoneinfolaw18_IndicatorsConcatenate.j0 k l0 l1 true) else (zoneinfolaw18_IndicatorsConcatenate.j0 k l0 l1 (decide ((l1.length : Int) > 500)))) else (zoneinfolaw18_IndicatorsConcatenate.j0 k l0 l1 true))
theorem zoneinfolaw18_IndicatorsConcatenate.mono_l : ∀ k, (∀ y0 y1 y2, LeO (zoneinfolaw18_IndicatorsConcatenate.j0 k y0 y1 y2) (zoneinfolaw18_IndicatorsConcatenate.j0 (k + 1) y0 y1 y2))
  | 0 => fun _ _ _ r h => by simp [zoneinfolaw18_IndicatorsConcatenate.j0] at h
  | k + 1 => by
    have ih0 := zoneinfolaw18_IndicatorsConcatenate.mono_l k
    · intro y0 y1 y2
      unfold zoneinfolaw18_IndicatorsConcatenate.j0
      repeat' first
      | (with_reducible exact ih0 _ _ _)
      | (with_reducible exact indicators_Encode.mono _ _)
      | (with_reducible exact zoneinfolaw18_awake.mono _)
      | (with_reducible exact zoneinforef01_Same.mono _ _ _)
      | (with_reducible exact zoneinforef18_Same.mono _ _ _)
      | (with_reducible exact LeO.refl _)
      | (with_reducible exact LeO.none _)
      | (with_reducible refine LeO.ite ?_ ?_)
      | (with_reducible refine LeO.bind ?_ (fun _ => ?_))
      | exact ih0 _ _ _
      | exact indicators_Encode.mono _ _
      | exact zoneinfolaw18_awake.mono _
      | exact zoneinforef01_Same.mono _ _ _
      | exact zoneinforef18_Same.mono _ _ _
      | exact LeO.none _
      | refine LeO.ite ?_ ?_
      | refine LeO.bind ?_ (fun _ => ?_)
theorem zoneinfolaw18_IndicatorsConcatenate.mono : ∀ a0 a1 k, LeO (zoneinfolaw18_IndicatorsConcatenate.f k a0 a1) (zoneinfolaw18_IndicatorsConcatenate.f (k + 1) a0 a1) := by
  intro a0 a1 k
  have ih0 := zoneinfolaw18_IndicatorsConcatenate.mono_l k
  unfold zoneinfolaw18_IndicatorsConcatenate.f
  repeat' first
      | (with_reducible exact ih0 _ _ _)
      | (with_reducible exact indicators_Encode.mono _ _)
      | (with_reducible exact zoneinfolaw18_awake.mono _)
      | (with_reducible exact zoneinforef01_Same.mono _ _ _)
      | (with_reducible exact zoneinforef18_Same.mono _ _ _)
      | (with_reducible exact LeO.refl _)
      | (with_reducible exact LeO.none _)
      | (with_reducible refine LeO.ite ?_ ?_)
      | (with_reducible refine LeO.bind ?_ (fun _ => ?_))
      | exact ih0 _ _ _
      | exact indicators_Encode.mono _ _
      | exact zoneinfolaw18_awake.mono _
      | exact zoneinforef01_Same.mono _ _ _
      | exact zoneinforef18_Same.mono _ _ _
      | exact LeO.none _
      | refine LeO.ite ?_ ?_
      | refine LeO.bind ?_ (fun _ => ?_)
set_option maxHeartbeats 8000000 in
set_option maxRecDepth 100000 in
theorem zoneinfolaw18_IndicatorsConcatenate.calls (k : Nat) (A0 : Option Addr) (c0 : Nat) (l0 : List Bool) (A1 : Option Addr) (c1 : Nat) (l1 : List Bool) (r : Bool) (w : World) (hr0 : Kd.C Kd.bool w A0 l0.length l0) (hc0 : l0.length ≤ c0) (hr1 : Kd.C Kd.bool w A1 l1.length l1) (hc1 : l1.length ≤ c1) (hrg : GL w) (h : zoneinfolaw18_IndicatorsConcatenate.f k l0 l1 = some r) :
    Calls Tryd.prog 6 #[.slice A0 l0.length c0, .slice A1 l1.length c1] w fun e w' => e = .returned (.bool r) ∧ Below w.heap.size w w' := by
  have HRg := Aside0.mk hrg
  clear hrg
  have HR0 := Aside0.mk hr0
  have HC0 := Aside0.mk hc0
  clear hr0 hc0
  have HR1 := Aside0.mk hr1
  have HC1 := Aside0.mk hc1
  clear hr1 hc1
  have HB := Aside0.mk (Below.refl w.heap.size w)
  have H : ((zoneinfolaw18_awake.f k).bind fun t256 => (if t256 = true then (if (l0.length : Int) > 500 then (zoneinfolaw18_IndicatorsConcatenate.j0 k l0 l1 true) else (zoneinfolaw18_IndicatorsConcatenate.j0 k l0 l1 (decide ((l1.length : Int) > 500)))) else (zoneinfolaw18_IndicatorsConcatenate.j0 k l0 l1 true))) = some r := h
  clear h
  have HC3 := Aside0.mk H
  clear H
  go_enter Tryd.func6, Tryd.ntmps6
  go_upto_region 1 with (fail)
  go_cut [18] (fun v18 wc => ∃ (kq : Nat) (x18_2 : Bool), v18 = .bool x18_2 ∧ Aside0 (zoneinfolaw18_IndicatorsConcatenate.j0 kq l0 l1 x18_2 = some r) ∧ Aside0 (kq ≤ k) ∧ Aside0 (Below w.heap.size w wc))
  case first =>
    have H := HC3.out
    clear HC3
    replace H := Option.bind_eq_some_iff.mp H
    obtain ⟨t256, A40, H⟩ := H
    replace H : (if t256 = true then (if (l0.length : Int) > 500 then (zoneinfolaw18_IndicatorsConcatenate.j0 k l0 l1 true) else (zoneinfolaw18_IndicatorsConcatenate.j0 k l0 l1 (decide ((l1.length : Int) > 500)))) else (zoneinfolaw18_IndicatorsConcatenate.j0 k l0 l1 true)) = some r := H
    have A4 := Aside0.mk A40
    clear A40
    by_cases c5 : t256 = true
    · subst c5
      have H1 : (if (l0.length : Int) > 500 then (zoneinfolaw18_IndicatorsConcatenate.j0 k l0 l1 true) else (zoneinfolaw18_IndicatorsConcatenate.j0 k l0 l1 (decide ((l1.length : Int) > 500)))) = some r := by rw [if_pos rfl] at H; exact H
      clear H
      have H := H1
      clear H1
      by_cases c6 : (l0.length : Int) > 500
      · rw [if_pos c6] at H
        have c6b0 : decide (500 < (l0.length : Int)) = true := decide_eq_true c6
        have c6b1 : decide (500 < l0.length) = true := decide_eq_true (by omega)
        clear c6
        (first | rw [c6b0] | (simp only [i64_w, i32_w]; rw [c6b0]) | skip)
        have H' := Aside0.mk H
        clear H
        go_wp2_with (first | (go_at_call 7; (with_reducible refine (zoneinfolaw18_awake.calls k  true _ ?side1 A4.out).mono ?_); (case side1 => repeat (first | exact (Kd.C_below HRg.out HB.out) | (with_reducible refine Kd.C_alloc ?_ _) | (with_reducible refine Kd.C_drewN ?_ _) | (with_reducible refine Kd.C_drew ?_))); rintro e w7 ⟨rfl, hb⟩; have n0_ := Aside0.mk (below_step (by repeat (first | (with_reducible first | exact HB.out | apply below_alloc | apply pw_below_drewN | apply below_drew1) | exact HB.out)) hb); clear HB; have HB := n0_; clear n0_; (try clear hb); (try clear hb2); (try clear hk); (try clear hi)))
        go_meet
        case rel => exact ⟨_, (true), (by first | rfl | (simp; done) | (simp [*]; done)), H', ⟨by first | omega | exact Nat.le_refl _⟩, ⟨by repeat (first | (with_reducible first | exact HB.out | apply below_alloc | apply pw_below_drewN | apply below_drew1) | exact HB.out)⟩⟩
      · rw [if_neg c6] at H
        have c6b0 : decide (500 < (l0.length : Int)) = false := decide_eq_false c6
        have c6b1 : decide (500 < l0.length) = false := decide_eq_false (by omega)
        clear c6
        (first | rw [c6b0] | (simp only [i64_w, i32_w]; rw [c6b0]) | skip)
        have H' := Aside0.mk H
        clear H
        go_wp2_with (first | (go_at_call 7; (with_reducible refine (zoneinfolaw18_awake.calls k  true _ ?side1 A4.out).mono ?_); (case side1 => repeat (first | exact (Kd.C_below HRg.out HB.out) | (with_reducible refine Kd.C_alloc ?_ _) | (with_reducible refine Kd.C_drewN ?_ _) | (with_reducible refine Kd.C_drew ?_))); rintro e w8 ⟨rfl, hb⟩; have n0_ := Aside0.mk (below_step (by repeat (first | (with_reducible first | exact HB.out | apply below_alloc | apply pw_below_drewN | apply below_drew1) | exact HB.out)) hb); clear HB; have HB := n0_; clear n0_; (try clear hb); (try clear hb2); (try clear hk); (try clear hi)))
        go_meet
        case rel => exact ⟨_, (decide ((l1.length : Int) > 500)), (by first | rfl | (simp; done) | (simp [*]; done)), H', ⟨by first | omega | exact Nat.le_refl _⟩, ⟨by repeat (first | (with_reducible first | exact HB.out | apply below_alloc | apply pw_below_drewN | apply below_drew1) | exact HB.out)⟩⟩
    · replace c5 := Bool.eq_false_iff.mpr c5
      subst c5
      have H1 : (zoneinfolaw18_IndicatorsConcatenate.j0 k l0 l1 true) = some r := by rw [if_neg (show ¬ (false = true) by decide)] at H; exact H
      clear H
      have H := H1
      clear H1
      have H' := Aside0.mk H
      clear H
      go_wp2_with (first | (go_at_call 7; (with_reducible refine (zoneinfolaw18_awake.calls k  false _ ?side1 A4.out).mono ?_); (case side1 => repeat (first | exact (Kd.C_below HRg.out HB.out) | (with_reducible refine Kd.C_alloc ?_ _) | (with_reducible refine Kd.C_drewN ?_ _) | (with_reducible refine Kd.C_drew ?_))); rintro e w9 ⟨rfl, hb⟩; have n0_ := Aside0.mk (below_step (by repeat (first | (with_reducible first | exact HB.out | apply below_alloc | apply pw_below_drewN | apply below_drew1) | exact HB.out)) hb); clear HB; have HB := n0_; clear n0_; (try clear hb); (try clear hb2); (try clear hk); (try clear hi)))
      go_meet
      case rel => exact ⟨_, (true), (by first | rfl | (simp; done) | (simp [*]; done)), H', ⟨by first | omega | exact Nat.le_refl _⟩, ⟨by repeat (first | (with_reducible first | exact HB.out | apply below_alloc | apply pw_below_drewN | apply below_drew1) | exact HB.out)⟩⟩
  case rest =>
    clear HC3
    try clear c1
    try clear p2
    try clear c5
    try clear c6
    try clear c6b0
    try clear c6b1
    obtain ⟨kq, x18_2, rfl, HA, HJ2, HB⟩ := hcut
    cases kq with
    | zero => exact absurd HA.out (by simp [zoneinfolaw18_IndicatorsConcatenate.j0])
    | succ kj2 =>
      have H := HA.out
      clear HA
      simp only [zoneinfolaw18_IndicatorsConcatenate.j0] at H
      by_cases c10 : x18_2 = true
      · subst c10
        have H1 : ((zoneinfolaw18_awake.f kj2).bind fun t257 => (some t257)) = some r := by rw [if_pos rfl] at H; exact H
        clear H
        have H := H1
        clear H1
        replace H := Option.bind_eq_some_iff.mp H
        obtain ⟨t257, A110, H⟩ := H
        replace H : (some t257) = some r := H
        have A11 := Aside0.mk A110
        clear A110
        obtain rfl := Option.some.inj H
        go_wp2_with (first | ((with_reducible refine gate_callee (f := 7) rfl ?_); refine goesL_ (some 19) rfl rfl Tryd.func7 (by kernel_rfl) rfl #[] rfl (by (try simp only [List.map_toArray, List.map_cons, List.map_nil]); first | done | rfl | (simp only [List.length_drop, List.length_take]; rfl)) ?_; (with_reducible refine (zoneinfolaw18_awake.calls kj2  t257 _ ?side1 A11.out).mono ?_); (case side1 => repeat (first | exact (Kd.C_below HRg.out HB.out) | (with_reducible refine Kd.C_alloc ?_ _) | (with_reducible refine Kd.C_drewN ?_ _) | (with_reducible refine Kd.C_drew ?_))); rintro e w12 ⟨rfl, hb⟩; refine ⟨_, rfl, ?_⟩; have n0_ := Aside0.mk (below_step (by repeat (first | (with_reducible first | exact HB.out | apply below_alloc | apply pw_below_drewN | apply below_drew1) | exact HB.out)) hb); clear HB; have HB := n0_; clear n0_; (try clear hb); (try clear hb2); (try clear hk); (try clear hi)))
        go_ret
        exact ⟨by first | rfl | (simp [errW_none, errW_some] <;> rfl) | (simp [*, errW_none, errW_some] <;> rfl), by repeat (first | (with_reducible first | exact HB.out | apply below_alloc | apply pw_below_drewN | apply below_drew1) | exact HB.out)⟩
      · replace c10 := Bool.eq_false_iff.mpr c10
        subst c10
        have H1 : ((some (([] : List Bool) : List Bool)).bind fun y258 => (if y258.length + l0.length < 140737488355328 then ((some (y258 ++ l0 : List Bool)).bind fun y261 => (if y261.length + l1.length < 140737488355328 then ((some (([] : List Int) : List Int)).bind fun y267 => ((indicators_Encode.f kj2 l0).bind fun t270 => (if y267.length + t270.length < 140737488355328 then ((some (y267 ++ t270 : List Int)).bind fun y273 => ((indicators_Encode.f kj2 l1).bind fun t276 => (if y273.length + t276.length < 140737488355328 then ((indicators_Encode.f kj2 (y261 ++ l1)).bind fun t282 => ((zoneinforef01_Same.f kj2 t282 (y273 ++ t276)).bind fun t285 => (if t285 = true then ((indicators_Encode.f kj2 l0).bind fun t286 => ((indicators_Encode.f kj2 l1).bind fun t289 => ((zoneinforef01_Same.f kj2 t286 t289).bind fun t292 => ((zoneinforef18_Same.f kj2 l0 l1).bind fun t293 => (some (t292 == t293)))))) else (none)))) else (none)))) else (none)))) else (none))) else (none))) = some r := by rw [if_neg (show ¬ (false = true) by decide)] at H; exact H
        clear H
        have H := H1
        clear H1
        obtain ⟨y258, hy258⟩ : ∃ y_ : List Bool, y_ = (([] : List Bool)) := ⟨_, rfl⟩
        replace H : (if y258.length + l0.length < 140737488355328 then ((some (y258 ++ l0 : List Bool)).bind fun y261 => (if y261.length + l1.length < 140737488355328 then ((some (([] : List Int) : List Int)).bind fun y267 => ((indicators_Encode.f kj2 l0).bind fun t270 => (if y267.length + t270.length < 140737488355328 then ((some (y267 ++ t270 : List Int)).bind fun y273 => ((indicators_Encode.f kj2 l1).bind fun t276 => (if y273.length + t276.length < 140737488355328 then ((indicators_Encode.f kj2 (y261 ++ l1)).bind fun t282 => ((zoneinforef01_Same.f kj2 t282 (y273 ++ t276)).bind fun t285 => (if t285 = true then ((indicators_Encode.f kj2 l0).bind fun t286 => ((indicators_Encode.f kj2 l1).bind fun t289 => ((zoneinforef01_Same.f kj2 t286 t289).bind fun t292 => ((zoneinforef18_Same.f kj2 l0 l1).bind fun t293 => (some (t292 == t293)))))) else (none)))) else (none)))) else (none)))) else (none))) else (none)) = some r := by first | (rw [hy258]; with_reducible exact H) | (have H2_ := (Option.bind_some _ _).symm.trans H; rw [hy258]; with_reducible exact H2_) | (have H2_ := (Option.bind_some _ _).symm.trans H; with_reducible exact H2_) | with_reducible exact H | (rw [hy258]; exact H) | exact H
        have Ny258 := Aside0.mk hy258
        clear hy258
        by_cases c13 : y258.length + l0.length < 140737488355328
        · rw [if_pos c13] at H
          have LMc13 := Aside0.mk c13
          clear c13
          obtain ⟨y261, hy261⟩ : ∃ y_ : List Bool, y_ = (y258 ++ l0) := ⟨_, rfl⟩
          replace H : (if y261.length + l1.length < 140737488355328 then ((some (([] : List Int) : List Int)).bind fun y267 => ((indicators_Encode.f kj2 l0).bind fun t270 => (if y267.length + t270.length < 140737488355328 then ((some (y267 ++ t270 : List Int)).bind fun y273 => ((indicators_Encode.f kj2 l1).bind fun t276 => (if y273.length + t276.length < 140737488355328 then ((indicators_Encode.f kj2 (y261 ++ l1)).bind fun t282 => ((zoneinforef01_Same.f kj2 t282 (y273 ++ t276)).bind fun t285 => (if t285 = true then ((indicators_Encode.f kj2 l0).bind fun t286 => ((indicators_Encode.f kj2 l1).bind fun t289 => ((zoneinforef01_Same.f kj2 t286 t289).bind fun t292 => ((zoneinforef18_Same.f kj2 l0 l1).bind fun t293 => (some (t292 == t293)))))) else (none)))) else (none)))) else (none)))) else (none)) = some r := by first | (rw [hy261]; with_reducible exact H) | (have H2_ := (Option.bind_some _ _).symm.trans H; rw [hy261]; with_reducible exact H2_) | (have H2_ := (Option.bind_some _ _).symm.trans H; with_reducible exact H2_) | with_reducible exact H | (rw [hy261]; exact H) | exact H
          have Ny261 := Aside0.mk hy261
          clear hy261
          by_cases c14 : y261.length + l1.length < 140737488355328
          · rw [if_pos c14] at H
            have LMc14 := Aside0.mk c14
            clear c14
            obtain ⟨y264, hy264⟩ : ∃ y_ : List Bool, y_ = (y261 ++ l1) := ⟨_, rfl⟩
            replace H : ((some (([] : List Int) : List Int)).bind fun y267 => ((indicators_Encode.f kj2 l0).bind fun t270 => (if y267.length + t270.length < 140737488355328 then ((some (y267 ++ t270 : List Int)).bind fun y273 => ((indicators_Encode.f kj2 l1).bind fun t276 => (if y273.length + t276.length < 140737488355328 then ((indicators_Encode.f kj2 y264).bind fun t282 => ((zoneinforef01_Same.f kj2 t282 (y273 ++ t276)).bind fun t285 => (if t285 = true then ((indicators_Encode.f kj2 l0).bind fun t286 => ((indicators_Encode.f kj2 l1).bind fun t289 => ((zoneinforef01_Same.f kj2 t286 t289).bind fun t292 => ((zoneinforef18_Same.f kj2 l0 l1).bind fun t293 => (some (t292 == t293)))))) else (none)))) else (none)))) else (none)))) = some r := by first | (rw [hy264]; with_reducible exact H) | (have H2_ := (Option.bind_some _ _).symm.trans H; rw [hy264]; with_reducible exact H2_) | (have H2_ := (Option.bind_some _ _).symm.trans H; with_reducible exact H2_) | with_reducible exact H | (rw [hy264]; exact H) | exact H
            have Ny264 := Aside0.mk hy264
            clear hy264
            obtain ⟨y267, hy267⟩ : ∃ y_ : List Int, y_ = (([] : List Int)) := ⟨_, rfl⟩
            replace H : ((indicators_Encode.f kj2 l0).bind fun t270 => (if y267.length + t270.length < 140737488355328 then ((some (y267 ++ t270 : List Int)).bind fun y273 => ((indicators_Encode.f kj2 l1).bind fun t276 => (if y273.length + t276.length < 140737488355328 then ((indicators_Encode.f kj2 y264).bind fun t282 => ((zoneinforef01_Same.f kj2 t282 (y273 ++ t276)).bind fun t285 => (if t285 = true then ((indicators_Encode.f kj2 l0).bind fun t286 => ((indicators_Encode.f kj2 l1).bind fun t289 => ((zoneinforef01_Same.f kj2 t286 t289).bind fun t292 => ((zoneinforef18_Same.f kj2 l0 l1).bind fun t293 => (some (t292 == t293)))))) else (none)))) else (none)))) else (none))) = some r := by first | (rw [hy267]; with_reducible exact H) | (have H2_ := (Option.bind_some _ _).symm.trans H; rw [hy267]; with_reducible exact H2_) | (have H2_ := (Option.bind_some _ _).symm.trans H; with_reducible exact H2_) | with_reducible exact H | (rw [hy267]; exact H) | exact H
            have Ny267 := Aside0.mk hy267
            clear hy267
            replace H := Option.bind_eq_some_iff.mp H
            obtain ⟨t270, A150, H⟩ := H
            replace H : (if y267.length + t270.length < 140737488355328 then ((some (y267 ++ t270 : List Int)).bind fun y273 => ((indicators_Encode.f kj2 l1).bind fun t276 => (if y273.length + t276.length < 140737488355328 then ((indicators_Encode.f kj2 y264).bind fun t282 => ((zoneinforef01_Same.f kj2 t282 (y273 ++ t276)).bind fun t285 => (if t285 = true then ((indicators_Encode.f kj2 l0).bind fun t286 => ((indicators_Encode.f kj2 l1).bind fun t289 => ((zoneinforef01_Same.f kj2 t286 t289).bind fun t292 => ((zoneinforef18_Same.f kj2 l0 l1).bind fun t293 => (some (t292 == t293)))))) else (none)))) else (none)))) else (none)) = some r := H
            have A15 := Aside0.mk A150
            clear A150
            by_cases c16 : y267.length + t270.length < 140737488355328
            · rw [if_pos c16] at H
              have LMc16 := Aside0.mk c16
              clear c16
              obtain ⟨y273, hy273⟩ : ∃ y_ : List Int, y_ = (y267 ++ t270) := ⟨_, rfl⟩
              replace H : ((indicators_Encode.f kj2 l1).bind fun t276 => (if y273.length + t276.length < 140737488355328 then ((indicators_Encode.f kj2 y264).bind fun t282 => ((zoneinforef01_Same.f kj2 t282 (y273 ++ t276)).bind fun t285 => (if t285 = true then ((indicators_Encode.f kj2 l0).bind fun t286 => ((indicators_Encode.f kj2 l1).bind fun t289 => ((zoneinforef01_Same.f kj2 t286 t289).bind fun t292 => ((zoneinforef18_Same.f kj2 l0 l1).bind fun t293 => (some (t292 == t293)))))) else (none)))) else (none))) = some r := by first | (rw [hy273]; with_reducible exact H) | (have H2_ := (Option.bind_some _ _).symm.trans H; rw [hy273]; with_reducible exact H2_) | (have H2_ := (Option.bind_some _ _).symm.trans H; with_reducible exact H2_) | with_reducible exact H | (rw [hy273]; exact H) | exact H
              have Ny273 := Aside0.mk hy273
              clear hy273
              replace H := Option.bind_eq_some_iff.mp H
              obtain ⟨t276, A170, H⟩ := H
              replace H : (if y273.length + t276.length < 140737488355328 then ((indicators_Encode.f kj2 y264).bind fun t282 => ((zoneinforef01_Same.f kj2 t282 (y273 ++ t276)).bind fun t285 => (if t285 = true then ((indicators_Encode.f kj2 l0).bind fun t286 => ((indicators_Encode.f kj2 l1).bind fun t289 => ((zoneinforef01_Same.f kj2 t286 t289).bind fun t292 => ((zoneinforef18_Same.f kj2 l0 l1).bind fun t293 => (some (t292 == t293)))))) else (none)))) else (none)) = some r := H
              have A17 := Aside0.mk A170
              clear A170
              by_cases c18 : y273.length + t276.length < 140737488355328
              · rw [if_pos c18] at H
                have LMc18 := Aside0.mk c18
                clear c18
                obtain ⟨y279, hy279⟩ : ∃ y_ : List Int, y_ = (y273 ++ t276) := ⟨_, rfl⟩
                replace H : ((indicators_Encode.f kj2 y264).bind fun t282 => ((zoneinforef01_Same.f kj2 t282 y279).bind fun t285 => (if t285 = true then ((indicators_Encode.f kj2 l0).bind fun t286 => ((indicators_Encode.f kj2 l1).bind fun t289 => ((zoneinforef01_Same.f kj2 t286 t289).bind fun t292 => ((zoneinforef18_Same.f kj2 l0 l1).bind fun t293 => (some (t292 == t293)))))) else (none)))) = some r := by first | (rw [hy279]; with_reducible exact H) | (have H2_ := (Option.bind_some _ _).symm.trans H; rw [hy279]; with_reducible exact H2_) | (have H2_ := (Option.bind_some _ _).symm.trans H; with_reducible exact H2_) | with_reducible exact H | (rw [hy279]; exact H) | exact H
                have Ny279 := Aside0.mk hy279
                clear hy279
                replace H := Option.bind_eq_some_iff.mp H
                obtain ⟨t282, A190, H⟩ := H
                replace H : ((zoneinforef01_Same.f kj2 t282 y279).bind fun t285 => (if t285 = true then ((indicators_Encode.f kj2 l0).bind fun t286 => ((indicators_Encode.f kj2 l1).bind fun t289 => ((zoneinforef01_Same.f kj2 t286 t289).bind fun t292 => ((zoneinforef18_Same.f kj2 l0 l1).bind fun t293 => (some (t292 == t293)))))) else (none))) = some r := H
                have A19 := Aside0.mk A190
                clear A190
                replace H := Option.bind_eq_some_iff.mp H
                obtain ⟨t285, A200, H⟩ := H
                replace H : (if t285 = true then ((indicators_Encode.f kj2 l0).bind fun t286 => ((indicators_Encode.f kj2 l1).bind fun t289 => ((zoneinforef01_Same.f kj2 t286 t289).bind fun t292 => ((zoneinforef18_Same.f kj2 l0 l1).bind fun t293 => (some (t292 == t293)))))) else (none)) = some r := H
                have A20 := Aside0.mk A200
                clear A200
                by_cases c21 : t285 = true
                · subst c21
                  have H1 : ((indicators_Encode.f kj2 l0).bind fun t286 => ((indicators_Encode.f kj2 l1).bind fun t289 => ((zoneinforef01_Same.f kj2 t286 t289).bind fun t292 => ((zoneinforef18_Same.f kj2 l0 l1).bind fun t293 => (some (t292 == t293)))))) = some r := by rw [if_pos rfl] at H; exact H
                  clear H
                  have H := H1
                  clear H1
                  replace H := Option.bind_eq_some_iff.mp H
                  obtain ⟨t286, A220, H⟩ := H
                  replace H : ((indicators_Encode.f kj2 l1).bind fun t289 => ((zoneinforef01_Same.f kj2 t286 t289).bind fun t292 => ((zoneinforef18_Same.f kj2 l0 l1).bind fun t293 => (some (t292 == t293))))) = some r := H
                  have A22 := Aside0.mk A220
                  clear A220
                  replace H := Option.bind_eq_some_iff.mp H
                  obtain ⟨t289, A230, H⟩ := H
                  replace H : ((zoneinforef01_Same.f kj2 t286 t289).bind fun t292 => ((zoneinforef18_Same.f kj2 l0 l1).bind fun t293 => (some (t292 == t293)))) = some r := H
                  have A23 := Aside0.mk A230
                  clear A230
                  replace H := Option.bind_eq_some_iff.mp H
                  obtain ⟨t292, A240, H⟩ := H
                  replace H : ((zoneinforef18_Same.f kj2 l0 l1).bind fun t293 => (some (t292 == t293))) = some r := H
                  have A24 := Aside0.mk A240
                  clear A240
                  replace H := Option.bind_eq_some_iff.mp H
                  obtain ⟨t293, A250, H⟩ := H
                  replace H : (some (t292 == t293)) = some r := H
                  have A25 := Aside0.mk A250
                  clear A250
                  obtain rfl := Option.some.inj H
                  go_wp2_with (first | ((with_reducible refine gate_dst (N := 20) rfl ?_); (try (refine gate_guard (by rfl) ?_; dsimp only)); refine Kd.R_lit Kd.bool _ 4 ?hg (N := 20) ?hd (xs := ([] : List Bool)) (inner := []) (ok := fun _ => True) (okp := fun _ => True) ?hr ?hp (fun _ hk => hk) trivial (Below.refl _ _) (Nat.le_refl _) (by simp) ?_; (case hd => rfl); (case hg => rfl); (case hr => first | (go_simp; done) | (go_simp; rfl)); (case hp => exact (Reps.none _ _)); intro v259 w26 ho27 hb hg_ hnew_; clear hg_ hnew_; (first | rw [← Ny258.out] at ho27 | (simp only [Int.reduceToNat] at ho27; rw [← Ny258.out] at ho27)); have n0_ := Aside0.mk (Kd.R_lower ho27 (below_size (by repeat (first | (with_reducible first | exact HB.out | apply below_alloc | apply pw_below_drewN | apply below_drew1) | exact HB.out)))); have n1_ := Aside0.mk (below_step (by repeat (first | (with_reducible first | exact HB.out | apply below_alloc | apply pw_below_drewN | apply below_drew1) | exact HB.out)) hb); clear HB; have HO260 := n0_; have HB := n1_; clear n0_ n1_; clear hb ho27) | ((with_reducible refine gate_builtin (b := .append) (xs := #[.tmp 20, .tmp 21]) rfl ?_); (try (refine gate_guard (by rfl) ?_; dsimp only)); at_builtin; refine Kd.R_append_rows Kd.bool (w0 := w) w.heap.size rfl (.tmp 20) (.tmp 21) 23 4 (.bool false) 1 rfl Tryd.underlying23 info4 rfl (by decide) (by omega) v259 y258 l0 _ _ _ (fun _ => True) (fun _ => False) rfl rfl ?aO ?aR (fun _ _ h => h) (fun _ h => h.elim) ?aF ?aB ?aS ?aL ?_; (case aR => repeat (first | exact (Kd.C_below HR0.out HB.out) | (with_reducible refine Kd.C_alloc ?_ _) | (with_reducible refine Kd.C_drewN ?_ _) | (with_reducible refine Kd.C_drew ?_))); (case aB => exact (by repeat (first | (with_reducible first | exact HB.out | apply below_alloc | apply pw_below_drewN | apply below_drew1) | exact HB.out))); (case aF => exact (fun _ _ => trivial)); (case aO => exact (by (with_reducible repeat (first | apply Kd.R_alloc | apply Kd.R_drewN | apply Kd.R_drew)); exact HO260.out)); (case aS => exact (below_size (by repeat (first | (with_reducible first | exact HB.out | apply below_alloc | apply pw_below_drewN | apply below_drew1) | exact HB.out)))); (case aL => have := LMc13.out; omega); intro v262 w28 ho hb hg hat; rw [← Ny261.out] at ho; have n0_ := Aside0.mk (hb); have n1_ := Aside0.mk (ho); clear HB; clear HO260; have HB := n0_; have HO263 := n1_; clear n0_ n1_; clear ho hb hg hat) | ((with_reducible refine gate_builtin (b := .append) (xs := #[.tmp 22, .tmp 23]) rfl ?_); (try (refine gate_guard (by rfl) ?_; dsimp only)); at_builtin; refine Kd.R_append_rows Kd.bool (w0 := w) w.heap.size rfl (.tmp 22) (.tmp 23) 23 4 (.bool false) 1 rfl Tryd.underlying23 info4 rfl (by decide) (by omega) v262 y261 l1 _ _ _ (fun _ => True) (fun _ => False) rfl rfl ?aO ?aR (fun _ _ h => h) (fun _ h => h.elim) ?aF ?aB ?aS ?aL ?_; (case aR => repeat (first | exact (Kd.C_below HR1.out HB.out) | (with_reducible refine Kd.C_alloc ?_ _) | (with_reducible refine Kd.C_drewN ?_ _) | (with_reducible refine Kd.C_drew ?_))); (case aB => exact (by repeat (first | (with_reducible first | exact HB.out | apply below_alloc | apply pw_below_drewN | apply below_drew1) | exact HB.out))); (case aF => exact (fun _ _ => trivial)); (case aO => exact (by (with_reducible repeat (first | apply Kd.R_alloc | apply Kd.R_drewN | apply Kd.R_drew)); exact HO263.out)); (case aS => exact (below_size (by repeat (first | (with_reducible first | exact HB.out | apply below_alloc | apply pw_below_drewN | apply below_drew1) | exact HB.out)))); (case aL => have := LMc14.out; omega); intro v265 w29 ho hb hg hat; rw [← Ny264.out] at ho; have n0_ := Aside0.mk (hb); have n1_ := Aside0.mk (ho); clear HB; clear HO263; have HB := n0_; have HO266 := n1_; clear n0_ n1_; clear ho hb hg hat) | ((with_reducible refine gate_dst (N := 25) rfl ?_); (try (refine gate_guard (by rfl) ?_; dsimp only)); refine Kd.R_lit (Kd.int .u8) _ 5 ?hg (N := 25) ?hd (xs := ([] : List Int)) (inner := []) (ok := fun _ => True) (okp := fun _ => True) ?hr ?hp (fun _ hk => hk) trivial (Below.refl _ _) (Nat.le_refl _) (by simp) ?_; (case hd => rfl); (case hg => rfl); (case hr => first | (go_simp; done) | (go_simp; rfl)); (case hp => exact (Reps.none _ _)); intro v268 w30 ho31 hb hg_ hnew_; clear hg_ hnew_; (first | rw [← Ny267.out] at ho31 | (simp only [Int.reduceToNat] at ho31; rw [← Ny267.out] at ho31)); have n0_ := Aside0.mk (Kd.R_below (by (with_reducible repeat (first | apply Kd.R_alloc | apply Kd.R_drewN | apply Kd.R_drew)); exact HO266.out) hb); have n1_ := Aside0.mk (Kd.R_lower ho31 (below_size (by repeat (first | (with_reducible first | exact HB.out | apply below_alloc | apply pw_below_drewN | apply below_drew1) | exact HB.out)))); have n2_ := Aside0.mk (below_step (by repeat (first | (with_reducible first | exact HB.out | apply below_alloc | apply pw_below_drewN | apply below_drew1) | exact HB.out)) hb); clear HO266; clear HB; have HO266 := n0_; have HO269 := n1_; have HB := n2_; clear n0_ n1_ n2_; clear hb ho31) | ((with_reducible refine gate_callee (f := 12) rfl ?_); refine goesL_ (some 27) rfl rfl Tryd.func12 (by kernel_rfl) rfl #[.slice A0 l0.length c0] rfl (by (try simp only [List.map_toArray, List.map_cons, List.map_nil]); first | done | rfl | (simp only [List.length_drop, List.length_take]; rfl)) ?_; (with_reducible refine (indicators_Encode.calls kj2 _ _ l0 t270 _ ?side1 ?side2 A15.out).mono ?_); (case side1 => repeat (first | exact (Kd.C_below HR0.out HB.out) | (with_reducible refine Kd.C_alloc ?_ _) | (with_reducible refine Kd.C_drewN ?_ _) | (with_reducible refine Kd.C_drew ?_))); (case side2 => exact HC0.out); rintro e w32 ⟨v271, rfl, ho0, hb⟩; refine ⟨_, rfl, ?_⟩; have n0_ := Aside0.mk (Kd.R_below (by (with_reducible repeat (first | apply Kd.R_alloc | apply Kd.R_drewN | apply Kd.R_drew)); exact HO266.out) hb); have n1_ := Aside0.mk (Kd.R_elder' (by (with_reducible repeat (first | apply Kd.R_alloc | apply Kd.R_drewN | apply Kd.R_drew)); exact HO269.out) (Kd.R_base ho0) hb); have n2_ := Aside0.mk (Kd.R_lower (Kd.R_new' ho0 (Kd.R_lt (by (with_reducible repeat (first | apply Kd.R_alloc | apply Kd.R_drewN | apply Kd.R_drew)); exact HO269.out))) (below_size (by repeat (first | (with_reducible first | exact HB.out | apply below_alloc | apply pw_below_drewN | apply below_drew1) | exact HB.out)))); have n3_ := Aside0.mk (below_step (by repeat (first | (with_reducible first | exact HB.out | apply below_alloc | apply pw_below_drewN | apply below_drew1) | exact HB.out)) hb); clear HO266; clear HO269; clear HB; have HO266 := n0_; have HO269 := n1_; have HO272 := n2_; have HB := n3_; clear n0_ n1_ n2_ n3_; (try clear hb); (try clear hb2); (try clear hk); (try clear hi); (try clear ho0); obtain ⟨Ao34, co34, eo34⟩ := Kd.R_slice HO272.out; subst eo34) | ((with_reducible refine gate_builtin (b := .append) (xs := #[.tmp 25, .tmp 27]) rfl ?_); (try (refine gate_guard (by rfl) ?_; dsimp only)); at_builtin; refine Kd.R_append_rows (Kd.int .u8) (w0 := w) w.heap.size rfl (.tmp 25) (.tmp 27) 22 5 (.int .u8 0) 1 rfl Tryd.underlying22 info5 rfl (by decide) (by omega) v268 y267 t270 _ _ _ (fun k_ => some k_ ≠ (.slice Ao34 t270.length co34 : Value).ownBlock) (fun _ => False) rfl rfl ?aO ?aR (fun _ _ h => h) (fun _ h => h.elim) ?aF ?aB ?aS ?aL ?_; (case aR => repeat (first | exact (Kd.R_reads' HO272.out).2.2 | (with_reducible refine Kd.C_alloc ?_ _) | (with_reducible refine Kd.C_drewN ?_ _) | (with_reducible refine Kd.C_drew ?_))); (case aB => exact (by repeat (first | (with_reducible first | exact HB.out | apply below_alloc | apply pw_below_drewN | apply below_drew1) | exact HB.out))); (case aF => exact (fun k_ hk => Kd.fresh' (Kd.R_lt (by (with_reducible repeat (first | apply Kd.R_alloc | apply Kd.R_drewN | apply Kd.R_drew)); exact HO272.out)) k_ hk)); (case aO => exact (by (with_reducible repeat (first | apply Kd.R_alloc | apply Kd.R_drewN | apply Kd.R_drew)); exact Kd.R_mono HO269.out (fun _ hk => hk.2))); (case aS => exact (below_size (by repeat (first | (with_reducible first | exact HB.out | apply below_alloc | apply pw_below_drewN | apply below_drew1) | exact HB.out)))); (case aL => have := LMc16.out; omega); intro v274 w33 ho hb hg hat; rw [← Ny273.out] at ho; have n0_ := Aside0.mk (Kd.R_over' (by (with_reducible repeat (first | apply Kd.R_alloc | apply Kd.R_drewN | apply Kd.R_drew)); exact HO266.out) (Kd.R_typed (by (with_reducible repeat (first | apply Kd.R_alloc | apply Kd.R_drewN | apply Kd.R_drew)); exact HO269.out)) (by decide) hg); have n1_ := Aside0.mk (Kd.R_after (ok := (fun _ => True)) (by (with_reducible repeat (first | apply Kd.R_alloc | apply Kd.R_drewN | apply Kd.R_drew)); exact HO272.out) hg hat); have n2_ := Aside0.mk (hb); have n3_ := Aside0.mk (ho); clear HO266; clear HO272; clear HB; clear HO269; have HO266 := n0_; have HO272 := n1_; have HB := n2_; have HO275 := n3_; clear n0_ n1_ n2_ n3_; clear ho hb hg hat) | ((with_reducible refine gate_callee (f := 12) rfl ?_); refine goesL_ (some 30) rfl rfl Tryd.func12 (by kernel_rfl) rfl #[.slice A1 l1.length c1] rfl (by (try simp only [List.map_toArray, List.map_cons, List.map_nil]); first | done | rfl | (simp only [List.length_drop, List.length_take]; rfl)) ?_; (with_reducible refine (indicators_Encode.calls kj2 _ _ l1 t276 _ ?side1 ?side2 A17.out).mono ?_); (case side1 => repeat (first | exact (Kd.C_below HR1.out HB.out) | (with_reducible refine Kd.C_alloc ?_ _) | (with_reducible refine Kd.C_drewN ?_ _) | (with_reducible refine Kd.C_drew ?_))); (case side2 => exact HC1.out); rintro e w35 ⟨v277, rfl, ho0, hb⟩; refine ⟨_, rfl, ?_⟩; have n0_ := Aside0.mk (Kd.R_below (by (with_reducible repeat (first | apply Kd.R_alloc | apply Kd.R_drewN | apply Kd.R_drew)); exact HO266.out) hb); have n1_ := Aside0.mk (Kd.R_elder' (by (with_reducible repeat (first | apply Kd.R_alloc | apply Kd.R_drewN | apply Kd.R_drew)); exact HO272.out) (Kd.R_base ho0) hb); have n2_ := Aside0.mk (Kd.R_elder' (by (with_reducible repeat (first | apply Kd.R_alloc | apply Kd.R_drewN | apply Kd.R_drew)); exact HO275.out) (Kd.R_base ho0) hb); have n3_ := Aside0.mk (Kd.R_lower (Kd.R_new' (Kd.R_new' ho0 (Kd.R_lt (by (with_reducible repeat (first | apply Kd.R_alloc | apply Kd.R_drewN | apply Kd.R_drew)); exact HO272.out))) (Kd.R_lt (by (with_reducible repeat (first | apply Kd.R_alloc | apply Kd.R_drewN | apply Kd.R_drew)); exact HO275.out))) (below_size (by repeat (first | (with_reducible first | exact HB.out | apply below_alloc | apply pw_below_drewN | apply below_drew1) | exact HB.out)))); have n4_ := Aside0.mk (below_step (by repeat (first | (with_reducible first | exact HB.out | apply below_alloc | apply pw_below_drewN | apply below_drew1) | exact HB.out)) hb); clear HO266; clear HO272; clear HO275; clear HB; have HO266 := n0_; have HO272 := n1_; have HO275 := n2_; have HO278 := n3_; have HB := n4_; clear n0_ n1_ n2_ n3_ n4_; (try clear hb); (try clear hb2); (try clear hk); (try clear hi); (try clear ho0); obtain ⟨Ao37, co37, eo37⟩ := Kd.R_slice HO278.out; subst eo37) | ((with_reducible refine gate_builtin (b := .append) (xs := #[.tmp 28, .tmp 30]) rfl ?_); (try (refine gate_guard (by rfl) ?_; dsimp only)); at_builtin; refine Kd.R_append_rows (Kd.int .u8) (w0 := w) w.heap.size rfl (.tmp 28) (.tmp 30) 22 5 (.int .u8 0) 1 rfl Tryd.underlying22 info5 rfl (by decide) (by omega) v274 y273 t276 _ _ _ (fun k_ => some k_ ≠ (.slice Ao34 t270.length co34 : Value).ownBlock ∧ some k_ ≠ (.slice Ao37 t276.length co37 : Value).ownBlock) (fun _ => False) rfl rfl ?aO ?aR (fun _ _ h => h) (fun _ h => h.elim) ?aF ?aB ?aS ?aL ?_; (case aR => repeat (first | exact (Kd.R_reads' HO278.out).2.2 | (with_reducible refine Kd.C_alloc ?_ _) | (with_reducible refine Kd.C_drewN ?_ _) | (with_reducible refine Kd.C_drew ?_))); (case aB => exact (by repeat (first | (with_reducible first | exact HB.out | apply below_alloc | apply pw_below_drewN | apply below_drew1) | exact HB.out))); (case aF => exact (fun k_ hk => ⟨Kd.fresh' (Kd.R_lt (by (with_reducible repeat (first | apply Kd.R_alloc | apply Kd.R_drewN | apply Kd.R_drew)); exact HO272.out)) k_ hk, Kd.fresh' (Kd.R_lt (by (with_reducible repeat (first | apply Kd.R_alloc | apply Kd.R_drewN | apply Kd.R_drew)); exact HO278.out)) k_ hk⟩)); (case aO => exact (by (with_reducible repeat (first | apply Kd.R_alloc | apply Kd.R_drewN | apply Kd.R_drew)); exact HO275.out)); (case aS => exact (below_size (by repeat (first | (with_reducible first | exact HB.out | apply below_alloc | apply pw_below_drewN | apply below_drew1) | exact HB.out)))); (case aL => have := LMc18.out; omega); intro v280 w36 ho hb hg hat; rw [← Ny279.out] at ho; have n0_ := Aside0.mk (Kd.R_over' (by (with_reducible repeat (first | apply Kd.R_alloc | apply Kd.R_drewN | apply Kd.R_drew)); exact HO266.out) (Kd.R_typed (by (with_reducible repeat (first | apply Kd.R_alloc | apply Kd.R_drewN | apply Kd.R_drew)); exact HO275.out)) (by decide) hg); have n1_ := Aside0.mk (Kd.R_after (ok := (fun k_ => some k_ ≠ (.slice Ao37 t276.length co37 : Value).ownBlock)) (by (with_reducible repeat (first | apply Kd.R_alloc | apply Kd.R_drewN | apply Kd.R_drew)); exact Kd.R_mono HO272.out (fun _ hk => ⟨hk.2, hk.1.2⟩)) hg hat); have n2_ := Aside0.mk (Kd.R_after (ok := (fun k_ => some k_ ≠ (.slice Ao34 t270.length co34 : Value).ownBlock)) (by (with_reducible repeat (first | apply Kd.R_alloc | apply Kd.R_drewN | apply Kd.R_drew)); exact Kd.R_mono HO278.out (fun _ hk => ⟨hk.1.2, hk.2⟩)) hg hat); have n3_ := Aside0.mk (hb); have n4_ := Aside0.mk (ho); clear HO266; clear HO272; clear HO278; clear HB; clear HO275; have HO266 := n0_; have HO272 := n1_; have HO278 := n2_; have HB := n3_; have HO281 := n4_; clear n0_ n1_ n2_ n3_ n4_; clear ho hb hg hat; obtain ⟨Ao38, co38, eo38⟩ := Kd.R_slice HO266.out; subst eo38) | (go_at_call 12; (with_reducible refine (indicators_Encode.calls kj2 _ _ y264 t282 _ ?side1 ?side2 A19.out).mono ?_); (case side1 => repeat (first | exact (Kd.R_reads' HO266.out).2.2 | (with_reducible refine Kd.C_alloc ?_ _) | (with_reducible refine Kd.C_drewN ?_ _) | (with_reducible refine Kd.C_drew ?_))); (case side2 => exact (Kd.R_reads' HO266.out).2.1); rintro e w39 ⟨v283, rfl, ho0, hb⟩; have n0_ := Aside0.mk (Kd.R_below (by (with_reducible repeat (first | apply Kd.R_alloc | apply Kd.R_drewN | apply Kd.R_drew)); exact HO266.out) hb); have n1_ := Aside0.mk (Kd.R_elder' (by (with_reducible repeat (first | apply Kd.R_alloc | apply Kd.R_drewN | apply Kd.R_drew)); exact HO272.out) (Kd.R_base ho0) hb); have n2_ := Aside0.mk (Kd.R_elder' (by (with_reducible repeat (first | apply Kd.R_alloc | apply Kd.R_drewN | apply Kd.R_drew)); exact HO278.out) (Kd.R_base ho0) hb); have n3_ := Aside0.mk (Kd.R_elder' (by (with_reducible repeat (first | apply Kd.R_alloc | apply Kd.R_drewN | apply Kd.R_drew)); exact HO281.out) (Kd.R_base ho0) hb); have n4_ := Aside0.mk (Kd.R_lower (Kd.R_new' (Kd.R_new' (Kd.R_new' ho0 (Kd.R_lt (by (with_reducible repeat (first | apply Kd.R_alloc | apply Kd.R_drewN | apply Kd.R_drew)); exact HO272.out))) (Kd.R_lt (by (with_reducible repeat (first | apply Kd.R_alloc | apply Kd.R_drewN | apply Kd.R_drew)); exact HO278.out))) (Kd.R_lt (by (with_reducible repeat (first | apply Kd.R_alloc | apply Kd.R_drewN | apply Kd.R_drew)); exact HO281.out))) (below_size (by repeat (first | (with_reducible first | exact HB.out | apply below_alloc | apply pw_below_drewN | apply below_drew1) | exact HB.out)))); have n5_ := Aside0.mk (below_step (by repeat (first | (with_reducible first | exact HB.out | apply below_alloc | apply pw_below_drewN | apply below_drew1) | exact HB.out)) hb); clear HO266; clear HO272; clear HO278; clear HO281; clear HB; have HO266 := n0_; have HO272 := n1_; have HO278 := n2_; have HO281 := n3_; have HO284 := n4_; have HB := n5_; clear n0_ n1_ n2_ n3_ n4_ n5_; (try clear hb); (try clear hb2); (try clear hk); (try clear hi); (try clear ho0); obtain ⟨Ao40, co40, eo40⟩ := Kd.R_slice HO284.out; subst eo40; obtain ⟨Ao41, co41, eo41⟩ := Kd.R_slice HO281.out; subst eo41) | (go_at_call 11; (with_reducible refine (zoneinforef01_Same.calls kj2 _ _ t282 _ _ y279 true _ ?side1 ?side2 ?side3 ?side4 A20.out).mono ?_); (case side1 => repeat (first | exact (Kd.R_reads' HO284.out).2.2 | (with_reducible refine Kd.C_alloc ?_ _) | (with_reducible refine Kd.C_drewN ?_ _) | (with_reducible refine Kd.C_drew ?_))); (case side2 => exact (Kd.R_reads' HO284.out).2.1); (case side3 => repeat (first | exact (Kd.R_reads' HO281.out).2.2 | (with_reducible refine Kd.C_alloc ?_ _) | (with_reducible refine Kd.C_drewN ?_ _) | (with_reducible refine Kd.C_drew ?_))); (case side4 => exact (Kd.R_reads' HO281.out).2.1); rintro e w' ⟨rfl, ⟨nd, rfl⟩⟩) | (go_at_call 12; (with_reducible refine (indicators_Encode.calls kj2 _ _ l0 t286 _ ?side1 ?side2 A22.out).mono ?_); (case side1 => repeat (first | exact (Kd.C_below HR0.out (by repeat (first | (with_reducible first | exact HB.out | apply below_alloc | apply pw_below_drewN | apply below_drew1) | exact HB.out))) | (with_reducible refine Kd.C_alloc ?_ _) | (with_reducible refine Kd.C_drewN ?_ _) | (with_reducible refine Kd.C_drew ?_))); (case side2 => exact HC0.out); rintro e w42 ⟨v287, rfl, ho0, hb⟩; have n0_ := Aside0.mk (Kd.R_below (by (with_reducible repeat (first | apply Kd.R_alloc | apply Kd.R_drewN | apply Kd.R_drew)); exact HO266.out) hb); have n1_ := Aside0.mk (Kd.R_elder' (by (with_reducible repeat (first | apply Kd.R_alloc | apply Kd.R_drewN | apply Kd.R_drew)); exact HO272.out) (Kd.R_base ho0) hb); have n2_ := Aside0.mk (Kd.R_elder' (by (with_reducible repeat (first | apply Kd.R_alloc | apply Kd.R_drewN | apply Kd.R_drew)); exact HO278.out) (Kd.R_base ho0) hb); have n3_ := Aside0.mk (Kd.R_elder' (by (with_reducible repeat (first | apply Kd.R_alloc | apply Kd.R_drewN | apply Kd.R_drew)); exact HO281.out) (Kd.R_base ho0) hb); have n4_ := Aside0.mk (Kd.R_elder' (by (with_reducible repeat (first | apply Kd.R_alloc | apply Kd.R_drewN | apply Kd.R_drew)); exact HO284.out) (Kd.R_base ho0) hb); have n5_ := Aside0.mk (Kd.R_lower (Kd.R_new' (Kd.R_new' (Kd.R_new' (Kd.R_new' ho0 (Kd.R_lt (by (with_reducible repeat (first | apply Kd.R_alloc | apply Kd.R_drewN | apply Kd.R_drew)); exact HO272.out))) (Kd.R_lt (by (with_reducible repeat (first | apply Kd.R_alloc | apply Kd.R_drewN | apply Kd.R_drew)); exact HO278.out))) (Kd.R_lt (by (with_reducible repeat (first | apply Kd.R_alloc | apply Kd.R_drewN | apply Kd.R_drew)); exact HO281.out))) (Kd.R_lt (by (with_reducible repeat (first | apply Kd.R_alloc | apply Kd.R_drewN | apply Kd.R_drew)); exact HO284.out))) (below_size (by repeat (first | (with_reducible first | exact HB.out | apply below_alloc | apply pw_below_drewN | apply below_drew1) | exact HB.out)))); have n6_ := Aside0.mk (below_step (by repeat (first | (with_reducible first | exact HB.out | apply below_alloc | apply pw_below_drewN | apply below_drew1) | exact HB.out)) hb); clear HO266; clear HO272; clear HO278; clear HO281; clear HO284; clear HB; have HO266 := n0_; have HO272 := n1_; have HO278 := n2_; have HO281 := n3_; have HO284 := n4_; have HO288 := n5_; have HB := n6_; clear n0_ n1_ n2_ n3_ n4_ n5_ n6_; (try clear hb); (try clear hb2); (try clear hk); (try clear hi); (try clear ho0)) | (go_at_call 12; (with_reducible refine (indicators_Encode.calls kj2 _ _ l1 t289 _ ?side1 ?side2 A23.out).mono ?_); (case side1 => repeat (first | exact (Kd.C_below HR1.out HB.out) | (with_reducible refine Kd.C_alloc ?_ _) | (with_reducible refine Kd.C_drewN ?_ _) | (with_reducible refine Kd.C_drew ?_))); (case side2 => exact HC1.out); rintro e w43 ⟨v290, rfl, ho0, hb⟩; have n0_ := Aside0.mk (Kd.R_below (by (with_reducible repeat (first | apply Kd.R_alloc | apply Kd.R_drewN | apply Kd.R_drew)); exact HO266.out) hb); have n1_ := Aside0.mk (Kd.R_elder' (by (with_reducible repeat (first | apply Kd.R_alloc | apply Kd.R_drewN | apply Kd.R_drew)); exact HO272.out) (Kd.R_base ho0) hb); have n2_ := Aside0.mk (Kd.R_elder' (by (with_reducible repeat (first | apply Kd.R_alloc | apply Kd.R_drewN | apply Kd.R_drew)); exact HO278.out) (Kd.R_base ho0) hb); have n3_ := Aside0.mk (Kd.R_elder' (by (with_reducible repeat (first | apply Kd.R_alloc | apply Kd.R_drewN | apply Kd.R_drew)); exact HO281.out) (Kd.R_base ho0) hb); have n4_ := Aside0.mk (Kd.R_elder' (by (with_reducible repeat (first | apply Kd.R_alloc | apply Kd.R_drewN | apply Kd.R_drew)); exact HO284.out) (Kd.R_base ho0) hb); have n5_ := Aside0.mk (Kd.R_elder' (by (with_reducible repeat (first | apply Kd.R_alloc | apply Kd.R_drewN | apply Kd.R_drew)); exact HO288.out) (Kd.R_base ho0) hb); have n6_ := Aside0.mk (Kd.R_lower (Kd.R_new' (Kd.R_new' (Kd.R_new' (Kd.R_new' (Kd.R_new' ho0 (Kd.R_lt (by (with_reducible repeat (first | apply Kd.R_alloc | apply Kd.R_drewN | apply Kd.R_drew)); exact HO272.out))) (Kd.R_lt (by (with_reducible repeat (first | apply Kd.R_alloc | apply Kd.R_drewN | apply Kd.R_drew)); exact HO278.out))) (Kd.R_lt (by (with_reducible repeat (first | apply Kd.R_alloc | apply Kd.R_drewN | apply Kd.R_drew)); exact HO281.out))) (Kd.R_lt (by (with_reducible repeat (first | apply Kd.R_alloc | apply Kd.R_drewN | apply Kd.R_drew)); exact HO284.out))) (Kd.R_lt (by (with_reducible repeat (first | apply Kd.R_alloc | apply Kd.R_drewN | apply Kd.R_drew)); exact HO288.out))) (below_size (by repeat (first | (with_reducible first | exact HB.out | apply below_alloc | apply pw_below_drewN | apply below_drew1) | exact HB.out)))); have n7_ := Aside0.mk (below_step (by repeat (first | (with_reducible first | exact HB.out | apply below_alloc | apply pw_below_drewN | apply below_drew1) | exact HB.out)) hb); clear HO266; clear HO272; clear HO278; clear HO281; clear HO284; clear HO288; clear HB; have HO266 := n0_; have HO272 := n1_; have HO278 := n2_; have HO281 := n3_; have HO284 := n4_; have HO288 := n5_; have HO291 := n6_; have HB := n7_; clear n0_ n1_ n2_ n3_ n4_ n5_ n6_ n7_; (try clear hb); (try clear hb2); (try clear hk); (try clear hi); (try clear ho0); obtain ⟨Ao44, co44, eo44⟩ := Kd.R_slice HO288.out; subst eo44; obtain ⟨Ao45, co45, eo45⟩ := Kd.R_slice HO291.out; subst eo45) | (go_at_call 11; (with_reducible refine (zoneinforef01_Same.calls kj2 _ _ t286 _ _ t289 t292 _ ?side1 ?side2 ?side3 ?side4 A24.out).mono ?_); (case side1 => repeat (first | exact (Kd.R_reads' HO288.out).2.2 | (with_reducible refine Kd.C_alloc ?_ _) | (with_reducible refine Kd.C_drewN ?_ _) | (with_reducible refine Kd.C_drew ?_))); (case side2 => exact (Kd.R_reads' HO288.out).2.1); (case side3 => repeat (first | exact (Kd.R_reads' HO291.out).2.2 | (with_reducible refine Kd.C_alloc ?_ _) | (with_reducible refine Kd.C_drewN ?_ _) | (with_reducible refine Kd.C_drew ?_))); (case side4 => exact (Kd.R_reads' HO291.out).2.1); rintro e w' ⟨rfl, ⟨nd, rfl⟩⟩) | (go_at_call 10; (with_reducible refine (zoneinforef18_Same.calls kj2 _ _ l0 _ _ l1 t293 _ ?side1 ?side2 ?side3 ?side4 A25.out).mono ?_); (case side1 => repeat (first | exact (Kd.C_below HR0.out (by repeat (first | (with_reducible first | exact HB.out | apply below_alloc | apply pw_below_drewN | apply below_drew1) | exact HB.out))) | (with_reducible refine Kd.C_alloc ?_ _) | (with_reducible refine Kd.C_drewN ?_ _) | (with_reducible refine Kd.C_drew ?_))); (case side2 => exact HC0.out); (case side3 => repeat (first | exact (Kd.C_below HR1.out (by repeat (first | (with_reducible first | exact HB.out | apply below_alloc | apply pw_below_drewN | apply below_drew1) | exact HB.out))) | (with_reducible refine Kd.C_alloc ?_ _) | (with_reducible refine Kd.C_drewN ?_ _) | (with_reducible refine Kd.C_drew ?_))); (case side4 => exact HC1.out); rintro e w' ⟨rfl, ⟨nd, rfl⟩⟩))
                  go_ret
                  exact ⟨by first | rfl | (simp [errW_none, errW_some] <;> rfl) | (simp [*, errW_none, errW_some] <;> rfl), by repeat (first | (with_reducible first | exact HB.out | apply below_alloc | apply pw_below_drewN | apply below_drew1) | exact HB.out)⟩
                · replace c21 := Bool.eq_false_iff.mpr c21
                  subst c21
                  have H1 : (none) = some r := by rw [if_neg (show ¬ (false = true) by decide)] at H; exact H
                  clear H
                  have H := H1
                  clear H1
                  exact absurd H (by simp)
              · rw [if_neg c18] at H
                exact absurd H (by simp)
            · rw [if_neg c16] at H
              exact absurd H (by simp)
          · rw [if_neg c14] at H
            exact absurd H (by simp)
        · rw [if_neg c13] at H
          exact absurd H (by simp)

/-- THE ONE PURE STATEMENT of zoneinfolaw18_IndicatorsConcatenate: yours. -/
def zoneinfolaw18_IndicatorsConcatenate.Pure : Prop := ∀ (l0 : List Bool) (l1 : List Bool), l0.length ≤ maxLen → l0.length * 1 ≤ 140737488351232 → l1.length ≤ maxLen → l1.length * 1 ≤ 140737488351232 → ∃ k, zoneinfolaw18_IndicatorsConcatenate.f k l0 l1 = some true
theorem zoneinfolaw18_IndicatorsConcatenate.walk (P : zoneinfolaw18_IndicatorsConcatenate.Pure) (a0 : Option Addr) (len0 cap0 : Nat) (z0 : List Bool) (a1 : Option Addr) (len1 cap1 : Nat) (z1 : List Bool) (w : World) (hgl : GL w) (w0 : (a0 = none ∧ len0 = 0 ∧ cap0 = 0 ∧ z0 = []) ∨ ∃ x, a0 = some x ∧ len0 ≤ cap0 ∧ cap0 ≤ maxLen ∧ z0.length = cap0 ∧ ∀ i, i < z0.length → w.cell? (x.add i) = some (.bool (z0.getD i false))) (y0 : len0 * 1 ≤ 140737488351232) (w1 : (a1 = none ∧ len1 = 0 ∧ cap1 = 0 ∧ z1 = []) ∨ ∃ x, a1 = some x ∧ len1 ≤ cap1 ∧ cap1 ≤ maxLen ∧ z1.length = cap1 ∧ ∀ i, i < z1.length → w.cell? (x.add i) = some (.bool (z1.getD i false))) (y1 : len1 * 1 ≤ 140737488351232) :
    Calls Tryd.prog 6 #[.slice a0 len0 cap0, .slice a1 len1 cap1] w fun e w' => e = .returned (.bool true) ∧ Below w.heap.size w w' := by
  obtain ⟨l0, rfl, hr0, hm0, hc0⟩ := ofBoolRow w0
  obtain ⟨l1, rfl, hr1, hm1, hc1⟩ := ofBoolRow w1
  obtain ⟨k, h⟩ := P l0 l1 hm0 y0 hm1 y1
  refine (zoneinfolaw18_IndicatorsConcatenate.calls k _ _ l0 _ _ l1 true w (Kd.C_of_reads (d := false) (h1 := fun _ => rfl) hr0) hc0 (Kd.C_of_reads (d := false) (h1 := fun _ => rfl) hr1) hc1 hgl h).mono ?_
  rintro e w' ⟨rfl, hd⟩
  exact ⟨rfl, hd⟩

end Go.Proofs.YtbiglbdanppjpaaDoor.G
