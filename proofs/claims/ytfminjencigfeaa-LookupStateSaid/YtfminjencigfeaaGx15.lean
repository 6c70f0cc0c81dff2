/- Written by a program of this session for this seat: contracts of the functions that its laws reach, or the row of a law over its plain part. -/
import Derived.Test.YtfminjencigfeaaGx0
import Derived.Test.YtfminjencigfeaaGx3
import Derived.Test.YtfminjencigfeaaGx7
namespace Go.Proofs.Ytfminjencigfeaa.G
open Go.RowKit Go.Proofs.YtfminjencigfeaaW.PrintWords Go.Proofs.YtfminjencigfeaaW.PrintLast Go.Proofs.YtfminjencigfeaaW.PrintMore
attribute [local go_sem] max2_int min2_int max_two min_two max_three min_three max_four min_four   -- for this text's walks alone
set_option linter.unusedVariables false
set_option linter.unusedSimpArgs false

/-! ### zoneinfolaw23_LookupMatchesLinearSearch: function 4 -/
mutual
def zoneinfolaw23_LookupMatchesLinearSearch.j0 : Nat → List Int → Int → Int → Bool → Option (Bool)
  | 0, _, _, _, _ => none
  | k + 1, x0, x1, x2, x20 => if x20 = true then ((zoneinfolaw23_awake.f k).bind fun t276 => (some t276)) else ((lookup_Rank.f k x0 x1).bind fun t277 => (if t277 < 0 then (zoneinfolaw23_LookupMatchesLinearSearch.j1 k x0 x1 x2 t277 true) else (zoneinfolaw23_LookupMatchesLinearSearch.j1 k x0 x1 x2 t277 (decide (t277 > (x0.length : Int))))))
def zoneinfolaw23_LookupMatchesLinearSearch.j1 : Nat → List Int → Int → Int → Int → Bool → Option (Bool)
  | 0, _, _, _, _, _ => none
  | k + 1, x0, x1, x2, x7, x32 => if x32 = true then (none) else (zoneinfolaw23_LookupMatchesLinearSearch.l0 k x0 x1 x2 x7 0)
def zoneinfolaw23_LookupMatchesLinearSearch.l0 : Nat → List Int → Int → Int → Int → Int → Option (Bool)
  | 0, _, _, _, _, _ => none
  | k + 1, x0, x1, x2, x7, x8 => if x8 < (x0.length : Int) then (if 0 ≤ x8 then (if ((decide ((rd x0 x8) ≤ x1)) != (decide (x8 < x7))) = true then (none) else (zoneinfolaw23_LookupMatchesLinearSearch.l0 k x0 x1 x2 x7 (wrap64 (x8 + 1)))) else (none)) else (if x1 > x2 then (some true) else ((lookup_Rank.f k x0 x2).bind fun t279 => (some (decide (t279 ≥ x7)))))
end
def zoneinfolaw23_LookupMatchesLinearSearch.f (k : Nat) (l0 : List Int) (a1 : Int) (a2 : Int) : Option (Bool) := (zoneinfolaw23_awake.f k).bind fun t274 => (if t274 = true then (if (l0.length : Int) > 200 then (zoneinfolaw23_LookupMatchesLinearSearch.j0 k l0 a1 a2 true) else ((zoneinforef15_Descent.f k l0).bind fun t275 => (zoneinfolaw23_LookupMatchesLinearSearch.j0 k l0 a1 a2 (t275 != (-1))))) else (zoneinfolaw23_LookupMatchesLinearSearch.j0 k l0 a1 a2 true))
theorem zoneinfolaw23_LookupMatchesLinearSearch.mono_l : ∀ k, (∀ y0 y1 y2 y3, LeO (zoneinfolaw23_LookupMatchesLinearSearch.j0 k y0 y1 y2 y3) (zoneinfolaw23_LookupMatchesLinearSearch.j0 (k + 1) y0 y1 y2 y3)) ∧ (∀ y0 y1 y2 y3 y4, LeO (zoneinfolaw23_LookupMatchesLinearSearch.j1 k y0 y1 y2 y3 y4) (zoneinfolaw23_LookupMatchesLinearSearch.j1 (k + 1) y0 y1 y2 y3 y4)) ∧ (∀ y0 y1 y2 y3 y4, LeO (zoneinfolaw23_LookupMatchesLinearSearch.l0 k y0 y1 y2 y3 y4) (zoneinfolaw23_LookupMatchesLinearSearch.l0 (k + 1) y0 y1 y2 y3 y4))
  | 0 => ⟨fun _ _ _ _ r h => by simp [zoneinfolaw23_LookupMatchesLinearSearch.j0] at h, fun _ _ _ _ _ r h => by simp [zoneinfolaw23_LookupMatchesLinearSearch.j1] at h, fun _ _ _ _ _ r h => by simp [zoneinfolaw23_LookupMatchesLinearSearch.l0] at h⟩
  | k + 1 => by
    obtain ⟨ih0, ih1, ih2⟩ := zoneinfolaw23_LookupMatchesLinearSearch.mono_l k; refine ⟨?_, ?_, ?_⟩
    · intro y0 y1 y2 y3
      unfold zoneinfolaw23_LookupMatchesLinearSearch.j0
      repeat' first
      | (with_reducible exact ih0 _ _ _ _)
      | (with_reducible exact ih1 _ _ _ _ _)
      | (with_reducible exact ih2 _ _ _ _ _)
      | (with_reducible exact lookup_Rank.mono _ _ _)
      | (with_reducible exact zoneinfolaw23_awake.mono _)
      | (with_reducible exact zoneinforef15_Descent.mono _ _)
      | (with_reducible exact LeO.refl _)
      | (with_reducible exact LeO.none _)
      | (with_reducible refine LeO.ite ?_ ?_)
      | (with_reducible refine LeO.bind ?_ (fun _ => ?_))
      | exact ih0 _ _ _ _
      | exact ih1 _ _ _ _ _
      | exact ih2 _ _ _ _ _
      | exact lookup_Rank.mono _ _ _
      | exact zoneinfolaw23_awake.mono _
      | exact zoneinforef15_Descent.mono _ _
      | exact LeO.none _
      | refine LeO.ite ?_ ?_
      | refine LeO.bind ?_ (fun _ => ?_)
    · intro y0 y1 y2 y3 y4
      unfold zoneinfolaw23_LookupMatchesLinearSearch.j1
      repeat' first
      | (with_reducible exact ih0 _ _ _ _)
      | (with_reducible exact ih1 _ _ _ _ _)
      | (with_reducible exact ih2 _ _ _ _ _)
      | (with_reducible exact lookup_Rank.mono _ _ _)
      | (with_reducible exact zoneinfolaw23_awake.mono _)
      | (with_reducible exact zoneinforef15_Descent.mono _ _)
      | (with_reducible exact LeO.refl _)
      | (with_reducible exact LeO.none _)
      | (with_reducible refine LeO.ite ?_ ?_)
      | (with_reducible refine LeO.bind ?_ (fun _ => ?_))
      | exact ih0 _ _ _ _
      | exact ih1 _ _ _ _ _
      | exact ih2 _ _ _ _ _
      | exact lookup_Rank.mono _ _ _
      | exact zoneinfolaw23_awake.mono _
      | exact zoneinforef15_Descent.mono _ _
      | exact LeO.none _
      | refine LeO.ite ?_ ?_
      | refine LeO.bind ?_ (fun _ => ?_)
    · intro y0 y1 y2 y3 y4
      unfold zoneinfolaw23_LookupMatchesLinearSearch.l0
      repeat' first
      | (with_reducible exact ih0 _ _ _ _)
      | (with_reducible exact ih1 _ _ _ _ _)
      | (with_reducible exact ih2 _ _ _ _ _)
      | (with_reducible exact lookup_Rank.mono _ _ _)
      | (with_reducible exact zoneinfolaw23_awake.mono _)
      | (with_reducible exact zoneinforef15_Descent.mono _ _)
      | (with_reducible exact LeO.refl _)
      | (with_reducible exact LeO.none _)
      | (with_reducible refine LeO.ite ?_ ?_)
      | (with_reducible refine LeO.bind ?_ (fun _ => ?_))
      | exact ih0 _ _ _ _
      | exact ih1 _ _ _ _ _
      | exact ih2 _ _ _ _ _
      | exact lookup_Rank.mono _ _ _
      | exact zoneinfolaw23_awake.mono _
      | exact zoneinforef15_Descent.mono _ _
      | exact LeO.none _
      | refine LeO.ite ?_ ?_
      | refine LeO.bind ?_ (fun _ => ?_)
theorem zoneinfolaw23_LookupMatchesLinearSearch.mono : ∀ a0 a1 a2 k, LeO (zoneinfolaw23_LookupMatchesLinearSearch.f k a0 a1 a2) (zoneinfolaw23_LookupMatchesLinearSearch.f (k + 1) a0 a1 a2) := by
  intro a0 a1 a2 k; obtain ⟨ih0, ih1, ih2⟩ := zoneinfolaw23_LookupMatchesLinearSearch.mono_l k
  unfold zoneinfolaw23_LookupMatchesLinearSearch.f
  repeat' first
      | (with_reducible exact ih0 _ _ _ _)
      | (with_reducible exact ih1 _ _ _ _ _)
      | (with_reducible exact ih2 _ _ _ _ _)
      | (with_reducible exact lookup_Rank.mono _ _ _)
      | (with_reducible exact zoneinfolaw23_awake.mono _)
      | (with_reducible exact zoneinforef15_Descent.mono _ _)
      | (with_reducible exact LeO.refl _)
      | (with_reducible exact LeO.none _)
      | (with_reducible refine LeO.ite ?_ ?_)
      | (with_reducible refine LeO.bind ?_ (fun _ => ?_))
      | exact ih0 _ _ _ _
      | exact ih1 _ _ _ _ _
      | exact ih2 _ _ _ _ _
      | exact lookup_Rank.mono _ _ _
      | exact zoneinfolaw23_awake.mono _
      | exact zoneinforef15_Descent.mono _ _
      | exact LeO.none _
      | refine LeO.ite ?_ ?_
      | refine LeO.bind ?_ (fun _ => ?_)
set_option maxHeartbeats 8000000 in
set_option maxRecDepth 100000 in
theorem zoneinfolaw23_LookupMatchesLinearSearch.calls (k : Nat) (A0 : Option Addr) (c0 : Nat) (l0 : List Int) (a1 : Int) (a2 : Int) (r : Bool) (w : World) (hr0 : Kd.C (Kd.int .i64) w A0 l0.length l0) (hc0 : l0.length ≤ c0) (h : zoneinfolaw23_LookupMatchesLinearSearch.f k l0 a1 a2 = some r) :
    Calls Try.prog 4 #[.slice A0 l0.length c0, .int .i64 a1, .int .i64 a2] w fun e w' => e = .returned (.bool r) ∧ Below w.heap.size w w' := by
  have HR0 := Aside0.mk hr0; have HC0 := Aside0.mk hc0; clear hr0 hc0; have HB := Aside0.mk (Below.refl w.heap.size w)
  have H : ((zoneinfolaw23_awake.f k).bind fun t274 => (if t274 = true then (if (l0.length : Int) > 200 then (zoneinfolaw23_LookupMatchesLinearSearch.j0 k l0 a1 a2 true) else ((zoneinforef15_Descent.f k l0).bind fun t275 => (zoneinfolaw23_LookupMatchesLinearSearch.j0 k l0 a1 a2 (t275 != (-1))))) else (zoneinfolaw23_LookupMatchesLinearSearch.j0 k l0 a1 a2 true))) = some r := h
  clear h; have HC4 := Aside0.mk H; clear H
  go_enter Try.func4, Try.ntmps4
  go_upto_region 1 with (fail)
  go_cut [20] (fun v20 wc => ∃ (kq : Nat) (x20_3 : Bool), v20 = .bool x20_3 ∧ Aside0 (zoneinfolaw23_LookupMatchesLinearSearch.j0 kq l0 a1 a2 x20_3 = some r) ∧ Aside0 (kq ≤ k) ∧ Aside0 (Below w.heap.size w wc))
  case first =>
    have H := HC4.out; clear HC4; replace H := Option.bind_eq_some_iff.mp H; obtain ⟨t274, A50, H⟩ := H
    replace H : (if t274 = true then (if (l0.length : Int) > 200 then (zoneinfolaw23_LookupMatchesLinearSearch.j0 k l0 a1 a2 true) else ((zoneinforef15_Descent.f k l0).bind fun t275 => (zoneinfolaw23_LookupMatchesLinearSearch.j0 k l0 a1 a2 (t275 != (-1))))) else (zoneinfolaw23_LookupMatchesLinearSearch.j0 k l0 a1 a2 true)) = some r := H
    have A5 := Aside0.mk A50; clear A50
    by_cases c6 : t274 = true
    · subst c6
      have H1 : (if (l0.length : Int) > 200 then (zoneinfolaw23_LookupMatchesLinearSearch.j0 k l0 a1 a2 true) else ((zoneinforef15_Descent.f k l0).bind fun t275 => (zoneinfolaw23_LookupMatchesLinearSearch.j0 k l0 a1 a2 (t275 != (-1))))) = some r := by rw [if_pos rfl] at H; exact H
      clear H; have H := H1; clear H1
      by_cases c7 : (l0.length : Int) > 200
      · rw [if_pos c7] at H
        have c7b0 : decide (200 < (l0.length : Int)) = true := decide_eq_true c7
        have c7b1 : decide (200 < l0.length) = true := decide_eq_true (by omega)
        clear c7; (first | rw [c7b0] | (simp only [i64_w, i32_w]; rw [c7b0]) | skip); have H' := Aside0.mk H; clear H
        go_wp2_with (first | (go_at_call 8; (with_reducible refine (zoneinfolaw23_awake.calls k  true _ A5.out).mono ?_); rintro e w8 ⟨rfl, hb⟩; have n0_ := Aside0.mk (below_step (by repeat (first | (with_reducible first | exact HB.out | apply below_alloc | apply pw_below_drewN | apply below_drew1) | exact HB.out)) hb); clear HB; have HB := n0_; clear n0_; (try clear hb); (try clear hb2); (try clear hk); (try clear hi)))
        go_meet
        case rel => exact ⟨_, (true), (by first | rfl | (simp; done) | (simp [*]; done)), H', ⟨by first | omega | exact Nat.le_refl _⟩, ⟨by repeat (first | (with_reducible first | exact HB.out | apply below_alloc | apply pw_below_drewN | apply below_drew1) | exact HB.out)⟩⟩
      · rw [if_neg c7] at H
        have c7b0 : decide (200 < (l0.length : Int)) = false := decide_eq_false c7
        have c7b1 : decide (200 < l0.length) = false := decide_eq_false (by omega)
        clear c7; (first | rw [c7b0] | (simp only [i64_w, i32_w]; rw [c7b0]) | skip); replace H := Option.bind_eq_some_iff.mp H; obtain ⟨t275, A90, H⟩ := H
        replace H : (zoneinfolaw23_LookupMatchesLinearSearch.j0 k l0 a1 a2 (t275 != (-1))) = some r := H
        have A9 := Aside0.mk A90; clear A90; have H' := Aside0.mk H; clear H
        go_wp2_with (first | (go_at_call 8; (with_reducible refine (zoneinfolaw23_awake.calls k  true _ A5.out).mono ?_); rintro e w10 ⟨rfl, hb⟩; have n0_ := Aside0.mk (below_step (by repeat (first | (with_reducible first | exact HB.out | apply below_alloc | apply pw_below_drewN | apply below_drew1) | exact HB.out)) hb); clear HB; have HB := n0_; clear n0_; (try clear hb); (try clear hb2); (try clear hk); (try clear hi)) | (go_at_call 18; (with_reducible refine (zoneinforef15_Descent.calls k _ _ l0 t275 _ ?side1 ?side2 A9.out).mono ?_); (case side1 => repeat (first | exact (Kd.C_below HR0.out HB.out) | (with_reducible refine Kd.C_alloc ?_ _) | (with_reducible refine Kd.C_drewN ?_ _) | (with_reducible refine Kd.C_drew ?_))); (case side2 => exact HC0.out); rintro e w' ⟨rfl, ⟨nd, rfl⟩⟩))
        go_meet
        case rel => exact ⟨_, ((t275 != (-1))), (by first | rfl | (simp; done) | (simp [*]; done)), H', ⟨by first | omega | exact Nat.le_refl _⟩, ⟨by repeat (first | (with_reducible first | exact HB.out | apply below_alloc | apply pw_below_drewN | apply below_drew1) | exact HB.out)⟩⟩
    · replace c6 := Bool.eq_false_iff.mpr c6
      subst c6
      have H1 : (zoneinfolaw23_LookupMatchesLinearSearch.j0 k l0 a1 a2 true) = some r := by rw [if_neg (show ¬ (false = true) by decide)] at H; exact H
      clear H; have H := H1; clear H1; have H' := Aside0.mk H; clear H
      go_wp2_with (first | (go_at_call 8; (with_reducible refine (zoneinfolaw23_awake.calls k  false _ A5.out).mono ?_); rintro e w11 ⟨rfl, hb⟩; have n0_ := Aside0.mk (below_step (by repeat (first | (with_reducible first | exact HB.out | apply below_alloc | apply pw_below_drewN | apply below_drew1) | exact HB.out)) hb); clear HB; have HB := n0_; clear n0_; (try clear hb); (try clear hb2); (try clear hk); (try clear hi)))
      go_meet
      case rel => exact ⟨_, (true), (by first | rfl | (simp; done) | (simp [*]; done)), H', ⟨by first | omega | exact Nat.le_refl _⟩, ⟨by repeat (first | (with_reducible first | exact HB.out | apply below_alloc | apply pw_below_drewN | apply below_drew1) | exact HB.out)⟩⟩
  case rest =>
    clear HC4; (try clear p2); (try clear c4); (try clear c6); (try clear c7); (try clear c7b0); (try clear c7b1); obtain ⟨kq, x20_3, rfl, HA, HJ3, HB⟩ := hcut
    cases kq with
    | zero => exact absurd HA.out (by simp [zoneinfolaw23_LookupMatchesLinearSearch.j0])
    | succ kj3 =>
      have H := HA.out; clear HA
      simp only [zoneinfolaw23_LookupMatchesLinearSearch.j0] at H
      by_cases c12 : x20_3 = true
      · subst c12
        have H1 : ((zoneinfolaw23_awake.f kj3).bind fun t276 => (some t276)) = some r := by rw [if_pos rfl] at H; exact H
        clear H; have H := H1; clear H1; replace H := Option.bind_eq_some_iff.mp H; obtain ⟨t276, A130, H⟩ := H
        replace H : (some t276) = some r := H
        have A13 := Aside0.mk A130; clear A130
        obtain rfl := Option.some.inj H
        go_wp2_with (first | ((with_reducible refine gate_callee (f := 8) rfl ?_); refine goesL_ (some 21) rfl rfl Try.func8 (by kernel_rfl) rfl #[] rfl (by (try simp only [List.map_toArray, List.map_cons, List.map_nil]); first | done | rfl | (simp only [List.length_drop, List.length_take]; rfl)) ?_; (with_reducible refine (zoneinfolaw23_awake.calls kj3  t276 _ A13.out).mono ?_); rintro e w14 ⟨rfl, hb⟩; refine ⟨_, rfl, ?_⟩; have n0_ := Aside0.mk (below_step (by repeat (first | (with_reducible first | exact HB.out | apply below_alloc | apply pw_below_drewN | apply below_drew1) | exact HB.out)) hb); clear HB; have HB := n0_; clear n0_; (try clear hb); (try clear hb2); (try clear hk); (try clear hi)))
        go_ret
        exact ⟨by first | rfl | (simp [errW_none, errW_some] <;> rfl) | (simp [*, errW_none, errW_some] <;> rfl), by repeat (first | (with_reducible first | exact HB.out | apply below_alloc | apply pw_below_drewN | apply below_drew1) | exact HB.out)⟩
      · replace c12 := Bool.eq_false_iff.mpr c12
        subst c12
        have H1 : ((lookup_Rank.f kj3 l0 a1).bind fun t277 => (if t277 < 0 then (zoneinfolaw23_LookupMatchesLinearSearch.j1 kj3 l0 a1 a2 t277 true) else (zoneinfolaw23_LookupMatchesLinearSearch.j1 kj3 l0 a1 a2 t277 (decide (t277 > (l0.length : Int)))))) = some r := by rw [if_neg (show ¬ (false = true) by decide)] at H; exact H
        clear H; have H := H1; clear H1; replace H := Option.bind_eq_some_iff.mp H; obtain ⟨t277, A150, H⟩ := H
        replace H : (if t277 < 0 then (zoneinfolaw23_LookupMatchesLinearSearch.j1 kj3 l0 a1 a2 t277 true) else (zoneinfolaw23_LookupMatchesLinearSearch.j1 kj3 l0 a1 a2 t277 (decide (t277 > (l0.length : Int))))) = some r := H
        have A15 := Aside0.mk A150; clear A150; have HC16 := Aside0.mk H; clear H
        go_upto_region 4 with (first | ((with_reducible refine gate_callee (f := 10) rfl ?_); refine goesL_ (some 24) rfl rfl Try.func10 (by kernel_rfl) rfl #[.slice A0 l0.length c0, .int .i64 a1] rfl (by (try simp only [List.map_toArray, List.map_cons, List.map_nil]); first | done | rfl | (simp only [List.length_drop, List.length_take]; rfl)) ?_; (with_reducible refine (lookup_Rank.calls kj3 _ _ l0 a1 t277 _ ?side1 ?side2 A15.out).mono ?_); (case side1 => repeat (first | exact (Kd.C_below HR0.out HB.out) | (with_reducible refine Kd.C_alloc ?_ _) | (with_reducible refine Kd.C_drewN ?_ _) | (with_reducible refine Kd.C_drew ?_))); (case side2 => exact HC0.out); rintro e w' ⟨rfl, ⟨nd, rfl⟩⟩; refine ⟨_, rfl, ?_⟩))
        (try simp only [Act.put, List.setIfInBounds_toArray, List.set_cons_zero, List.set_cons_succ])
        go_cut [32] (fun v32 wc => ∃ (kq : Nat) (x32_15 : Bool), v32 = .bool x32_15 ∧ Aside0 (zoneinfolaw23_LookupMatchesLinearSearch.j1 kq l0 a1 a2 t277 x32_15 = some r) ∧ Aside0 (kq ≤ kj3) ∧ Aside0 (Below w.heap.size w wc))
        case first =>
          have H := HC16.out; clear HC16
          by_cases c17 : t277 < 0
          · rw [if_pos c17] at H
            have c17b0 : decide (t277 < 0) = true := decide_eq_true c17
            clear c17; (first | rw [c17b0] | (simp only [i64_w, i32_w]; rw [c17b0]) | skip); have H' := Aside0.mk H; clear H; go_wp2
            go_meet
            case rel => exact ⟨_, (true), (by first | rfl | (simp; done) | (simp [*]; done)), H', ⟨by have := HJ3.out; first | omega | exact Nat.le_refl _⟩, ⟨by repeat (first | (with_reducible first | exact HB.out | apply below_alloc | apply pw_below_drewN | apply below_drew1) | exact HB.out)⟩⟩
          · rw [if_neg c17] at H
            have c17b0 : decide (t277 < 0) = false := decide_eq_false c17
            clear c17; (first | rw [c17b0] | (simp only [i64_w, i32_w]; rw [c17b0]) | skip); have H' := Aside0.mk H; clear H; go_wp2
            go_meet
            case rel => exact ⟨_, (decide (t277 > (l0.length : Int))), (by first | rfl | (simp; done) | (simp [*]; done)), H', ⟨by have := HJ3.out; first | omega | exact Nat.le_refl _⟩, ⟨by repeat (first | (with_reducible first | exact HB.out | apply below_alloc | apply pw_below_drewN | apply below_drew1) | exact HB.out)⟩⟩
        case rest =>
          clear HC16; (try clear c1); (try clear p2); (try clear c4); (try clear c6); (try clear c7); (try clear c7b0); (try clear c7b1); (try clear c8); (try clear c10); (try clear c12); (try clear c17); (try clear c17b0); (try clear p2); obtain ⟨kq, x32_15, rfl, HA, HJ15, HB⟩ := hcut
          cases kq with
          | zero => exact absurd HA.out (by simp [zoneinfolaw23_LookupMatchesLinearSearch.j1])
          | succ kj15 =>
            have H := HA.out; clear HA
            simp only [zoneinfolaw23_LookupMatchesLinearSearch.j1] at H
            by_cases c18 : x32_15 = true
            · subst c18
              have H1 : (none) = some r := by rw [if_pos rfl] at H; exact H
              clear H; have H := H1; clear H1
              exact absurd H (by simp)
            · replace c18 := Bool.eq_false_iff.mpr c18
              subst c18
              have H1 : (zoneinfolaw23_LookupMatchesLinearSearch.l0 kj15 l0 a1 a2 t277 0) = some r := by rw [if_neg (show ¬ (false = true) by decide)] at H; exact H
              clear H; have H := H1; clear H1; have H' := Aside0.mk H; clear H; go_wp2
              go_loopg [8] kj15 (fun kq v8 w' => ∃ (x8_3 : Int), v8 = .int .i64 x8_3 ∧ Aside0 (zoneinfolaw23_LookupMatchesLinearSearch.l0 kq l0 a1 a2 t277 x8_3 = some r) ∧ Aside0 (kq ≤ kj15) ∧ Aside0 (Below w.heap.size w w'))
              case atStart => exact ⟨(0), (by first | rfl | (simp; done) | (simp [*]; done)), H', ⟨Nat.le_refl _⟩, ⟨by repeat (first | (with_reducible first | exact HB.out | apply below_alloc | apply pw_below_drewN | apply below_drew1) | exact HB.out)⟩⟩
              case round =>
                clear H'; (try clear c1); (try clear p2); (try clear c4); (try clear c6); (try clear c7); (try clear c7b0); (try clear c7b1); (try clear c8); (try clear c10); (try clear c12); (try clear c17); (try clear c17b0); (try clear c18); (try clear p2); obtain ⟨x8_3, rfl, HA, HK3, HB⟩ := hrel
                cases gk with
                | zero => exact absurd HA.out (by simp [zoneinfolaw23_LookupMatchesLinearSearch.l0])
                | succ k3 =>
                  have H := HA.out; clear HA
                  simp only [zoneinfolaw23_LookupMatchesLinearSearch.l0] at H
                  by_cases c19 : x8_3 < (l0.length : Int)
                  · rw [if_pos c19] at H
                    have c19b0 : decide (x8_3 < (l0.length : Int)) = true := decide_eq_true c19
                    clear c19
                    by_cases c20 : 0 ≤ x8_3
                    · rw [if_pos c20] at H
                      have c20b0 : decide (0 ≤ x8_3) = true := decide_eq_true c20
                      clear c20
                      by_cases c21 : ((decide ((rd l0 x8_3) ≤ a1)) != (decide (x8_3 < t277))) = true
                      · rw [if_pos c21] at H
                        exact absurd H (by simp)
                      · rw [if_neg c21] at H
                        have c21b0 : ((decide ((rd l0 x8_3) ≤ a1)) != (decide (x8_3 < t277))) = false := by simpa using c21
                        (try (have c21b1 : decide ((decide ((rd l0 x8_3) ≤ a1)) = (decide (x8_3 < t277))) = true := by simpa using c21)); (try (have c21b2 : ((decide ((rd l0 x8_3) ≤ a1)) == (decide (x8_3 < t277))) = true := by simpa using c21)); clear c21; have H' := Aside0.mk H; clear H
                        have p278 : 0 ≤ (x8_3 : Int) := of_decide_eq_true (by first | (with_reducible assumption) | assumption)
                        have q278 : x8_3 < (l0.length : Int) := of_decide_eq_true (by first | (with_reducible assumption) | assumption)
                        obtain ⟨ad278, e278, hx278_0⟩ := Kd.at_int HR0.out x8_3 p278 q278
                        cases e278
                        replace hx278_0 := (HB.out.cell (World.block_lt_of_cell? w _ hx278_0)).trans hx278_0; replace p278 := eq_true p278; replace q278 := eq_true q278; go_wp2
                        go_roundg k3
                        case measure => have := HJ3.out; have := HJ15.out; have := HK3.out; omega
                        case rel => exact ⟨(wrap64 (x8_3 + 1)), (by first | rfl | (simp; done) | (simp [*]; done)), H', ⟨by have := HJ3.out; have := HJ15.out; have := HK3.out; omega⟩, ⟨by repeat (first | (with_reducible first | exact HB.out | apply below_alloc | apply pw_below_drewN | apply below_drew1) | exact HB.out)⟩⟩
                    · rw [if_neg c20] at H
                      exact absurd H (by simp)
                  · rw [if_neg c19] at H
                    have c19b0 : decide (x8_3 < (l0.length : Int)) = false := decide_eq_false c19
                    clear c19
                    by_cases c22 : a1 > a2
                    · rw [if_pos c22] at H
                      have c22b0 : decide (a2 < a1) = true := decide_eq_true c22
                      clear c22
                      obtain rfl := Option.some.inj H
                      go_wp2
                      go_ret
                      exact ⟨by first | rfl | (simp [errW_none, errW_some] <;> rfl) | (simp [*, errW_none, errW_some] <;> rfl), by repeat (first | (with_reducible first | exact HB.out | apply below_alloc | apply pw_below_drewN | apply below_drew1) | exact HB.out)⟩
                    · rw [if_neg c22] at H
                      have c22b0 : decide (a2 < a1) = false := decide_eq_false c22
                      clear c22; replace H := Option.bind_eq_some_iff.mp H; obtain ⟨t279, A230, H⟩ := H
                      replace H : (some (decide (t279 ≥ t277))) = some r := H
                      have A23 := Aside0.mk A230; clear A230
                      obtain rfl := Option.some.inj H
                      go_wp2_with (first | (go_at_call 10; (with_reducible refine (lookup_Rank.calls k3 _ _ l0 a2 t279 _ ?side1 ?side2 A23.out).mono ?_); (case side1 => repeat (first | exact (Kd.C_below HR0.out HB.out) | (with_reducible refine Kd.C_alloc ?_ _) | (with_reducible refine Kd.C_drewN ?_ _) | (with_reducible refine Kd.C_drew ?_))); (case side2 => exact HC0.out); rintro e w' ⟨rfl, ⟨nd, rfl⟩⟩))
                      go_ret
                      exact ⟨by first | rfl | (simp [errW_none, errW_some] <;> rfl) | (simp [*, errW_none, errW_some] <;> rfl), by repeat (first | (with_reducible first | exact HB.out | apply below_alloc | apply pw_below_drewN | apply below_drew1) | exact HB.out)⟩

/-- THE ONE PURE STATEMENT of zoneinfolaw23_LookupMatchesLinearSearch: yours. -/
def zoneinfolaw23_LookupMatchesLinearSearch.Pure : Prop := ∀ (l0 : List Int) (a1 : Int) (a2 : Int), l0.length ≤ maxLen → l0.length * 8 ≤ 140737488351232 → (∀ x ∈ l0, (Lit.int .i64 x).wf = true) → (Lit.int .i64 a1).wf = true → (Lit.int .i64 a2).wf = true → ∃ k, zoneinfolaw23_LookupMatchesLinearSearch.f k l0 a1 a2 = some true
theorem zoneinfolaw23_LookupMatchesLinearSearch.walk (P : zoneinfolaw23_LookupMatchesLinearSearch.Pure) (a0 : Option Addr) (len0 cap0 : Nat) (z0 : List Int) (a1 : Int) (a2 : Int) (w : World) (w0 : (a0 = none ∧ len0 = 0 ∧ cap0 = 0 ∧ z0 = []) ∨ ∃ x, a0 = some x ∧ len0 ≤ cap0 ∧ cap0 ≤ maxLen ∧ z0.length = cap0 ∧ (∀ i, i < z0.length → w.cell? (x.add i) = some (.int .i64 (z0.getD i 0))) ∧ ∀ n ∈ z0, (Lit.int .i64 n).wf = true) (y0 : len0 * 8 ≤ 140737488351232) (w1 : (Lit.int .i64 a1).wf = true) (w2 : (Lit.int .i64 a2).wf = true) :
    Calls Try.prog 4 #[.slice a0 len0 cap0, .int .i64 a1, .int .i64 a2] w fun e w' => e = .returned (.bool true) ∧ Below w.heap.size w w' := by
  obtain ⟨l0, rfl, hr0, hm0, hw0, hc0⟩ := ReadsInt.ofRowC w0; obtain ⟨k, h⟩ := P l0 a1 a2 hm0 y0 hw0 w1 w2; refine (zoneinfolaw23_LookupMatchesLinearSearch.calls k _ _ l0 a1 a2 true w (Kd.C_of_reads (d := (0 : Int)) (h1 := fun _ => rfl) hr0) hc0 h).mono ?_; rintro e w' ⟨rfl, hd⟩
  exact ⟨rfl, hd⟩

/-! ### zoneinforef22_InEffect: function 19 -/
def zoneinforef22_InEffect.l0 : Nat → Int → Int → Int → List Int → List Int → List (S42) → List Int → List (S55) → List Bool → List Bool → Option (Int)
  | 0, _, _, _, _, _, _, _, _, _, _ => none
  | k + 1, x1, x5, x6, x281000, x281001, x281002, x281003, x281004, x281005, x281006 => if x6 < (x281000.length : Int) then (if 0 ≤ x6 then (if (rd x281000 x6) ≤ x1 then (if x6 < (x281001.length : Int) then (zoneinforef22_InEffect.l0 k x1 (wrap64 (rd x281001 x6)) (wrap64 (x6 + 1)) x281000 x281001 x281002 x281003 x281004 x281005 x281006) else (none)) else (zoneinforef22_InEffect.l0 k x1 x5 (wrap64 (x6 + 1)) x281000 x281001 x281002 x281003 x281004 x281005 x281006)) else (none)) else (some x5)
def zoneinforef22_InEffect.f (k : Nat) (l0_0 : List Int) (l0_1 : List Int) (l0_2 : List (S42)) (l0_3 : List Int) (l0_4 : List (S55)) (l0_5 : List Bool) (l0_6 : List Bool) (a1 : Int) : Option (Int) := zoneinforef22_InEffect.l0 k a1 0 0 l0_0 l0_1 l0_2 l0_3 l0_4 l0_5 l0_6
theorem zoneinforef22_InEffect.mono_l : ∀ k, (∀ y0 y1 y2 y3 y4 y5 y6 y7 y8 y9, LeO (zoneinforef22_InEffect.l0 k y0 y1 y2 y3 y4 y5 y6 y7 y8 y9) (zoneinforef22_InEffect.l0 (k + 1) y0 y1 y2 y3 y4 y5 y6 y7 y8 y9))
  | 0 => fun _ _ _ _ _ _ _ _ _ _ r h => by simp [zoneinforef22_InEffect.l0] at h
  | k + 1 => by
    have ih0 := zoneinforef22_InEffect.mono_l k
    · intro y0 y1 y2 y3 y4 y5 y6 y7 y8 y9
      unfold zoneinforef22_InEffect.l0
      repeat' first
      | (with_reducible exact ih0 _ _ _ _ _ _ _ _ _ _)
      | (with_reducible exact LeO.refl _)
      | (with_reducible exact LeO.none _)
      | (with_reducible refine LeO.ite ?_ ?_)
      | (with_reducible refine LeO.bind ?_ (fun _ => ?_))
      | exact ih0 _ _ _ _ _ _ _ _ _ _
      | exact LeO.none _
      | refine LeO.ite ?_ ?_
      | refine LeO.bind ?_ (fun _ => ?_)
theorem zoneinforef22_InEffect.mono : ∀ a0 a1 a2 a3 a4 a5 a6 a7 k, LeO (zoneinforef22_InEffect.f k a0 a1 a2 a3 a4 a5 a6 a7) (zoneinforef22_InEffect.f (k + 1) a0 a1 a2 a3 a4 a5 a6 a7) := by
  intro a0 a1 a2 a3 a4 a5 a6 a7 k; have ih0 := zoneinforef22_InEffect.mono_l k
  unfold zoneinforef22_InEffect.f
  repeat' first
      | (with_reducible exact ih0 _ _ _ _ _ _ _ _ _ _)
      | (with_reducible exact LeO.refl _)
      | (with_reducible exact LeO.none _)
      | (with_reducible refine LeO.ite ?_ ?_)
      | (with_reducible refine LeO.bind ?_ (fun _ => ?_))
      | exact ih0 _ _ _ _ _ _ _ _ _ _
      | exact LeO.none _
      | refine LeO.ite ?_ ?_
      | refine LeO.bind ?_ (fun _ => ?_)
set_option maxHeartbeats 8000000 in
set_option maxRecDepth 100000 in
theorem zoneinforef22_InEffect.calls (k : Nat) (A0_0 : Option Addr) (c0_0 : Nat) (l0_0 : List Int) (A0_1 : Option Addr) (c0_1 : Nat) (l0_1 : List Int) (A0_2 : Option Addr) (c0_2 : Nat) (l0_2 : List (S42)) (A0_3 : Option Addr) (c0_3 : Nat) (l0_3 : List Int) (A0_4 : Option Addr) (c0_4 : Nat) (l0_4 : List (S55)) (A0_5 : Option Addr) (c0_5 : Nat) (l0_5 : List Bool) (A0_6 : Option Addr) (c0_6 : Nat) (l0_6 : List Bool) (a1 : Int) (r : Int) (w : World) (hr0_0 : Kd.C (Kd.int .i64) w A0_0 l0_0.length l0_0) (hc0_0 : l0_0.length ≤ c0_0) (hr0_1 : Kd.C (Kd.int .u8) w A0_1 l0_1.length l0_1) (hc0_1 : l0_1.length ≤ c0_1) (hr0_2 : Kd.C k42 w A0_2 l0_2.length l0_2) (hc0_2 : l0_2.length ≤ c0_2) (hr0_3 : Kd.C (Kd.int .u8) w A0_3 l0_3.length l0_3) (hc0_3 : l0_3.length ≤ c0_3) (hr0_4 : Kd.C k55 w A0_4 l0_4.length l0_4) (hc0_4 : l0_4.length ≤ c0_4) (hr0_5 : Kd.C Kd.bool w A0_5 l0_5.length l0_5) (hc0_5 : l0_5.length ≤ c0_5) (hr0_6 : Kd.C Kd.bool w A0_6 l0_6.length l0_6) (hc0_6 : l0_6.length ≤ c0_6) (h : zoneinforef22_InEffect.f k l0_0 l0_1 l0_2 l0_3 l0_4 l0_5 l0_6 a1 = some r) :
    Calls Try.prog 19 #[.agg #[.slice A0_0 l0_0.length c0_0, .slice A0_1 l0_1.length c0_1, .slice A0_2 l0_2.length c0_2, .slice A0_3 l0_3.length c0_3, .slice A0_4 l0_4.length c0_4, .slice A0_5 l0_5.length c0_5, .slice A0_6 l0_6.length c0_6], .int .i64 a1] w fun e w' => e = .returned (.int .i64 r) ∧ Below w.heap.size w w' := by
  have hu28 := Try.underlying28; have HR0_0 := Aside0.mk hr0_0; have HC0_0 := Aside0.mk hc0_0; clear hr0_0 hc0_0; have HR0_1 := Aside0.mk hr0_1; have HC0_1 := Aside0.mk hc0_1; clear hr0_1 hc0_1; have HR0_2 := Aside0.mk hr0_2; have HC0_2 := Aside0.mk hc0_2; clear hr0_2 hc0_2; have HR0_3 := Aside0.mk hr0_3; have HC0_3 := Aside0.mk hc0_3; clear hr0_3 hc0_3; have HR0_4 := Aside0.mk hr0_4; have HC0_4 := Aside0.mk hc0_4; clear hr0_4 hc0_4; have HR0_5 := Aside0.mk hr0_5; have HC0_5 := Aside0.mk hc0_5; clear hr0_5 hc0_5; have HR0_6 := Aside0.mk hr0_6; have HC0_6 := Aside0.mk hc0_6; clear hr0_6 hc0_6; have HB := Aside0.mk (Below.refl w.heap.size w)
  have H : (zoneinforef22_InEffect.l0 k a1 0 0 l0_0 l0_1 l0_2 l0_3 l0_4 l0_5 l0_6) = some r := h
  clear h; have H' := Aside0.mk H; clear H
  go_enter Try.func19, Try.ntmps19
  go_wp2_with (first | ((with_reducible refine gate_dst (N := 2) rfl ?_); refine box_event ?hg (N := 2) ?hd (cs := #[.slice A0_0 l0_0.length c0_0, .slice A0_1 l0_1.length c0_1, .slice A0_2 l0_2.length c0_2, .slice A0_3 l0_3.length c0_3, .slice A0_4 l0_4.length c0_4, .slice A0_5 l0_5.length c0_5, .slice A0_6 l0_6.length c0_6]) (t := 28) ?hr ?_; (case hd => rfl); (case hg => rfl); (case hr => first | (go_simp; done) | (go_simp; rfl)); intro gb280 hg w3 hbox hb; have n0_ := Aside0.mk (below_step (by repeat (first | (with_reducible first | exact HB.out | apply below_alloc | apply pw_below_drewN | apply below_drew1) | exact HB.out)) hb); have n1_ := Aside0.mk (hbox); have n2_ := Aside0.mk ((by rw [hg]; exact (below_size (by repeat (first | (with_reducible first | exact HB.out | apply below_alloc | apply pw_below_drewN | apply below_drew1) | exact HB.out))) : w.heap.size ≤ gb280)); have n3_ := Aside0.mk ((by rw [hg]; exact (below_size (by repeat (first | (with_reducible first | exact HB.out | apply below_alloc | apply pw_below_drewN | apply below_drew1) | exact HB.out))) : w.heap.size ≤ gb280)); clear HB; have HB := n0_; have BK280 := n1_; have GW280 := n2_; have GE280 := n3_; clear n0_ n1_ n2_ n3_; clear hb hbox hg))
  go_loopg [5, 6] k (fun kq v5 v6 w' => ∃ (x5_1 : Int) (x6_1 : Int), v5 = .int .i64 x5_1 ∧ v6 = .int .i64 x6_1 ∧ Aside0 (zoneinforef22_InEffect.l0 kq a1 x5_1 x6_1 l0_0 l0_1 l0_2 l0_3 l0_4 l0_5 l0_6 = some r) ∧ Aside0 (kq ≤ k) ∧ Aside0 (w'.heap[gb280]? = some (.cells #[(.slice A0_0 l0_0.length c0_0), (.slice A0_1 l0_1.length c0_1), (.slice A0_2 l0_2.length c0_2), (.slice A0_3 l0_3.length c0_3), (.slice A0_4 l0_4.length c0_4), (.slice A0_5 l0_5.length c0_5), (.slice A0_6 l0_6.length c0_6)] 28 (0, 0))) ∧ Aside0 (Below w.heap.size w w'))
  case atStart => exact ⟨(0), (0), (by first | rfl | (simp; done) | (simp [*]; done)), (by first | rfl | (simp; done) | (simp [*]; done)), H', ⟨Nat.le_refl _⟩, ⟨by (with_reducible repeat (first | refine blk_drewN ?_ _ | refine blk_drew ?_ | refine blk_alloc ?_ _)); exact BK280.out⟩, ⟨by repeat (first | (with_reducible first | exact HB.out | apply below_alloc | apply pw_below_drewN | apply below_drew1 | refine below_set ?_ GE280.out) | exact HB.out)⟩⟩
  case round =>
    clear H'; (try clear c1); (try clear p2); obtain ⟨x5_1, x6_1, rfl, rfl, HA, HK1, BK280, HB⟩ := hrel
    cases gk with
    | zero => exact absurd HA.out (by simp [zoneinforef22_InEffect.l0])
    | succ k1 =>
      have H := HA.out; clear HA
      simp only [zoneinforef22_InEffect.l0] at H
      by_cases c4 : x6_1 < (l0_0.length : Int)
      · rw [if_pos c4] at H
        have c4b0 : decide (x6_1 < (l0_0.length : Int)) = true := decide_eq_true c4
        clear c4
        by_cases c5 : 0 ≤ x6_1
        · rw [if_pos c5] at H
          have c5b0 : decide (0 ≤ x6_1) = true := decide_eq_true c5
          clear c5
          by_cases c6 : (rd l0_0 x6_1) ≤ a1
          · rw [if_pos c6] at H
            have c6b0 : decide ((rd l0_0 x6_1) ≤ a1) = true := decide_eq_true c6
            clear c6
            by_cases c7 : x6_1 < (l0_1.length : Int)
            · rw [if_pos c7] at H
              have c7b0 : decide (x6_1 < (l0_1.length : Int)) = true := decide_eq_true c7
              clear c7; have H' := Aside0.mk H; clear H
              have hcz8_0 : wr.cell? ⟨gb280, 0, none⟩ = some (.slice A0_0 l0_0.length c0_0) := (blk_cell BK280.out 0).trans rfl
              have hcz8_1 : wr.cell? ⟨gb280, 1, none⟩ = some (.slice A0_1 l0_1.length c0_1) := (blk_cell BK280.out 1).trans rfl
              have hcz8_2 : wr.cell? ⟨gb280, 2, none⟩ = some (.slice A0_2 l0_2.length c0_2) := (blk_cell BK280.out 2).trans rfl
              have hcz8_3 : wr.cell? ⟨gb280, 3, none⟩ = some (.slice A0_3 l0_3.length c0_3) := (blk_cell BK280.out 3).trans rfl
              have hcz8_4 : wr.cell? ⟨gb280, 4, none⟩ = some (.slice A0_4 l0_4.length c0_4) := (blk_cell BK280.out 4).trans rfl
              have hcz8_5 : wr.cell? ⟨gb280, 5, none⟩ = some (.slice A0_5 l0_5.length c0_5) := (blk_cell BK280.out 5).trans rfl
              have hcz8_6 : wr.cell? ⟨gb280, 6, none⟩ = some (.slice A0_6 l0_6.length c0_6) := (blk_cell BK280.out 6).trans rfl
              have hfz8_0 := blk_frozen BK280.out 0; have hfz8_1 := blk_frozen BK280.out 1; have hfz8_2 := blk_frozen BK280.out 2; have hfz8_3 := blk_frozen BK280.out 3; have hfz8_4 := blk_frozen BK280.out 4; have hfz8_5 := blk_frozen BK280.out 5; have hfz8_6 := blk_frozen BK280.out 6
              have p281 : 0 ≤ (x6_1 : Int) := of_decide_eq_true (by first | (with_reducible assumption) | assumption)
              have q281 : x6_1 < (l0_0.length : Int) := of_decide_eq_true (by first | (with_reducible assumption) | assumption)
              obtain ⟨ad281, e281, hx281_0⟩ := Kd.at_int HR0_0.out x6_1 p281 q281
              cases e281
              replace hx281_0 := (HB.out.cell (World.block_lt_of_cell? w _ hx281_0)).trans hx281_0; replace p281 := eq_true p281; replace q281 := eq_true q281
              have p282 : 0 ≤ (x6_1 : Int) := of_decide_eq_true (by first | (with_reducible assumption) | assumption)
              have q282 : x6_1 < (l0_1.length : Int) := of_decide_eq_true (by first | (with_reducible assumption) | assumption)
              obtain ⟨ad282, e282, hx282_0⟩ := Kd.at_int HR0_1.out x6_1 p282 q282
              cases e282
              replace hx282_0 := (HB.out.cell (World.block_lt_of_cell? w _ hx282_0)).trans hx282_0; replace p282 := eq_true p282; replace q282 := eq_true q282; go_wp2
              go_roundg k1
              case measure => have := HK1.out; omega
              case rel => exact ⟨(wrap64 (rd l0_1 x6_1)), (wrap64 (x6_1 + 1)), (by first | rfl | (simp; done) | (simp [*]; done)), (by first | rfl | (simp; done) | (simp [*]; done)), H', ⟨by have := HK1.out; omega⟩, ⟨by (with_reducible repeat (first | refine blk_drewN ?_ _ | refine blk_drew ?_ | refine blk_alloc ?_ _)); exact BK280.out⟩, ⟨by repeat (first | (with_reducible first | exact HB.out | apply below_alloc | apply pw_below_drewN | apply below_drew1 | refine below_set ?_ GE280.out) | exact HB.out)⟩⟩
            · rw [if_neg c7] at H
              exact absurd H (by simp)
          · rw [if_neg c6] at H
            have c6b0 : decide ((rd l0_0 x6_1) ≤ a1) = false := decide_eq_false c6
            clear c6; have H' := Aside0.mk H; clear H
            have hcz9_0 : wr.cell? ⟨gb280, 0, none⟩ = some (.slice A0_0 l0_0.length c0_0) := (blk_cell BK280.out 0).trans rfl
            have hcz9_1 : wr.cell? ⟨gb280, 1, none⟩ = some (.slice A0_1 l0_1.length c0_1) := (blk_cell BK280.out 1).trans rfl
            have hcz9_2 : wr.cell? ⟨gb280, 2, none⟩ = some (.slice A0_2 l0_2.length c0_2) := (blk_cell BK280.out 2).trans rfl
            have hcz9_3 : wr.cell? ⟨gb280, 3, none⟩ = some (.slice A0_3 l0_3.length c0_3) := (blk_cell BK280.out 3).trans rfl
            have hcz9_4 : wr.cell? ⟨gb280, 4, none⟩ = some (.slice A0_4 l0_4.length c0_4) := (blk_cell BK280.out 4).trans rfl
            have hcz9_5 : wr.cell? ⟨gb280, 5, none⟩ = some (.slice A0_5 l0_5.length c0_5) := (blk_cell BK280.out 5).trans rfl
            have hcz9_6 : wr.cell? ⟨gb280, 6, none⟩ = some (.slice A0_6 l0_6.length c0_6) := (blk_cell BK280.out 6).trans rfl
            have hfz9_0 := blk_frozen BK280.out 0; have hfz9_1 := blk_frozen BK280.out 1; have hfz9_2 := blk_frozen BK280.out 2; have hfz9_3 := blk_frozen BK280.out 3; have hfz9_4 := blk_frozen BK280.out 4; have hfz9_5 := blk_frozen BK280.out 5; have hfz9_6 := blk_frozen BK280.out 6
            have p281 : 0 ≤ (x6_1 : Int) := of_decide_eq_true (by first | (with_reducible assumption) | assumption)
            have q281 : x6_1 < (l0_0.length : Int) := of_decide_eq_true (by first | (with_reducible assumption) | assumption)
            obtain ⟨ad281, e281, hx281_0⟩ := Kd.at_int HR0_0.out x6_1 p281 q281
            cases e281
            replace hx281_0 := (HB.out.cell (World.block_lt_of_cell? w _ hx281_0)).trans hx281_0; replace p281 := eq_true p281; replace q281 := eq_true q281; go_wp2
            go_roundg k1
            case measure => have := HK1.out; omega
            case rel => exact ⟨(x5_1), (wrap64 (x6_1 + 1)), (by first | rfl | (simp; done) | (simp [*]; done)), (by first | rfl | (simp; done) | (simp [*]; done)), H', ⟨by have := HK1.out; omega⟩, ⟨by (with_reducible repeat (first | refine blk_drewN ?_ _ | refine blk_drew ?_ | refine blk_alloc ?_ _)); exact BK280.out⟩, ⟨by repeat (first | (with_reducible first | exact HB.out | apply below_alloc | apply pw_below_drewN | apply below_drew1 | refine below_set ?_ GE280.out) | exact HB.out)⟩⟩
        · rw [if_neg c5] at H
          exact absurd H (by simp)
      · rw [if_neg c4] at H
        have c4b0 : decide (x6_1 < (l0_0.length : Int)) = false := decide_eq_false c4
        clear c4
        obtain rfl := Option.some.inj H
        have hcz10_0 : wr.cell? ⟨gb280, 0, none⟩ = some (.slice A0_0 l0_0.length c0_0) := (blk_cell BK280.out 0).trans rfl
        have hcz10_1 : wr.cell? ⟨gb280, 1, none⟩ = some (.slice A0_1 l0_1.length c0_1) := (blk_cell BK280.out 1).trans rfl
        have hcz10_2 : wr.cell? ⟨gb280, 2, none⟩ = some (.slice A0_2 l0_2.length c0_2) := (blk_cell BK280.out 2).trans rfl
        have hcz10_3 : wr.cell? ⟨gb280, 3, none⟩ = some (.slice A0_3 l0_3.length c0_3) := (blk_cell BK280.out 3).trans rfl
        have hcz10_4 : wr.cell? ⟨gb280, 4, none⟩ = some (.slice A0_4 l0_4.length c0_4) := (blk_cell BK280.out 4).trans rfl
        have hcz10_5 : wr.cell? ⟨gb280, 5, none⟩ = some (.slice A0_5 l0_5.length c0_5) := (blk_cell BK280.out 5).trans rfl
        have hcz10_6 : wr.cell? ⟨gb280, 6, none⟩ = some (.slice A0_6 l0_6.length c0_6) := (blk_cell BK280.out 6).trans rfl
        have hfz10_0 := blk_frozen BK280.out 0; have hfz10_1 := blk_frozen BK280.out 1; have hfz10_2 := blk_frozen BK280.out 2; have hfz10_3 := blk_frozen BK280.out 3; have hfz10_4 := blk_frozen BK280.out 4; have hfz10_5 := blk_frozen BK280.out 5; have hfz10_6 := blk_frozen BK280.out 6; go_wp2
        go_ret
        exact ⟨by first | rfl | (simp [errW_none, errW_some] <;> rfl) | (simp [*, errW_none, errW_some] <;> rfl), by repeat (first | (with_reducible first | exact HB.out | apply below_alloc | apply pw_below_drewN | apply below_drew1 | refine below_set ?_ GE280.out) | exact HB.out)⟩

end Go.Proofs.Ytfminjencigfeaa.G
