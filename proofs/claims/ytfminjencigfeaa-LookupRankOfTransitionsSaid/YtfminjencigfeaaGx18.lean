/- Written by a program of this session for this seat: contracts of the functions that its laws reach, or the row of a law over its plain part. -/
import Derived.Test.YtfminjencigfeaaGx0
import Derived.Test.YtfminjencigfeaaGx3
import Derived.Test.YtfminjencigfeaaGx7
namespace Go.Proofs.Ytfminjencigfeaa.G
open Go.RowKit Go.Proofs.YtfminjencigfeaaW.PrintWords Go.Proofs.YtfminjencigfeaaW.PrintLast Go.Proofs.YtfminjencigfeaaW.PrintMore
attribute [local go_sem] max2_int min2_int max_two min_two max_three min_three max_four min_four   -- for this text's walks alone
set_option linter.unusedVariables false
set_option linter.unusedSimpArgs false

/-! ### zoneinfolaw23_LookupRankOfTransitions: function 7 -/
def zoneinfolaw23_LookupRankOfTransitions.j0 : Nat → List Int → Int → Bool → Option (Bool)
  | 0, _, _, _ => none
  | k + 1, x0, x1, x22 => if x22 = true then ((zoneinfolaw23_awake.f k).bind fun t333 => (some t333)) else (if (x0.length : Int) = 0 then (none) else (if 0 ≤ (Int.tmod (wrap64 (x1)) (x0.length : Int)) then (if (Int.tmod (wrap64 (x1)) (x0.length : Int)) < (x0.length : Int) then ((lookup_Rank.f k x0 (rd x0 (Int.tmod (wrap64 (x1)) (x0.length : Int)))).bind fun t335 => (if t335 = (wrap64 ((Int.tmod (wrap64 (x1)) (x0.length : Int)) + 1)) then (if (rd x0 (Int.tmod (wrap64 (x1)) (x0.length : Int))) = (-9223372036854775808) then ((lookup_Rank.f k x0 9223372036854775807).bind fun t337 => (some (t337 == (x0.length : Int)))) else ((lookup_Rank.f k x0 (wrap64 ((rd x0 (Int.tmod (wrap64 (x1)) (x0.length : Int))) - 1))).bind fun t339 => (if t339 = (Int.tmod (wrap64 (x1)) (x0.length : Int)) then ((lookup_Rank.f k x0 9223372036854775807).bind fun t340 => (some (t340 == (x0.length : Int)))) else (none)))) else (none))) else (none)) else (none)))
def zoneinfolaw23_LookupRankOfTransitions.f (k : Nat) (l0 : List Int) (a1 : Int) : Option (Bool) := (zoneinfolaw23_awake.f k).bind fun t331 => (if t331 = true then (if (l0.length : Int) > 200 then (zoneinfolaw23_LookupRankOfTransitions.j0 k l0 a1 true) else (if (l0.length : Int) = 0 then (zoneinfolaw23_LookupRankOfTransitions.j0 k l0 a1 true) else ((zoneinforef15_Descent.f k l0).bind fun t332 => (zoneinfolaw23_LookupRankOfTransitions.j0 k l0 a1 (t332 != (-1)))))) else (zoneinfolaw23_LookupRankOfTransitions.j0 k l0 a1 true))
theorem zoneinfolaw23_LookupRankOfTransitions.mono_l : ∀ k, (∀ y0 y1 y2, LeO (zoneinfolaw23_LookupRankOfTransitions.j0 k y0 y1 y2) (zoneinfolaw23_LookupRankOfTransitions.j0 (k + 1) y0 y1 y2))
  | 0 => fun _ _ _ r h => by simp [zoneinfolaw23_LookupRankOfTransitions.j0] at h
  | k + 1 => by
    have ih0 := zoneinfolaw23_LookupRankOfTransitions.mono_l k
    · intro y0 y1 y2
      unfold zoneinfolaw23_LookupRankOfTransitions.j0
      repeat' first
      | (with_reducible exact ih0 _ _ _)
      | (with_reducible exact lookup_Rank.mono _ _ _)
      | (with_reducible exact zoneinfolaw23_awake.mono _)
      | (with_reducible exact zoneinforef15_Descent.mono _ _)
      | (with_reducible exact LeO.refl _)
      | (with_reducible exact LeO.none _)
      | (with_reducible refine LeO.ite ?_ ?_)
      | (with_reducible refine LeO.bind ?_ (fun _ => ?_))
      | exact ih0 _ _ _
      | exact lookup_Rank.mono _ _ _
      | exact zoneinfolaw23_awake.mono _
      | exact zoneinforef15_Descent.mono _ _
      | exact LeO.none _
      | refine LeO.ite ?_ ?_
      | refine LeO.bind ?_ (fun _ => ?_)
theorem zoneinfolaw23_LookupRankOfTransitions.mono : ∀ a0 a1 k, LeO (zoneinfolaw23_LookupRankOfTransitions.f k a0 a1) (zoneinfolaw23_LookupRankOfTransitions.f (k + 1) a0 a1) := by
  intro a0 a1 k
  have ih0 := zoneinfolaw23_LookupRankOfTransitions.mono_l k
  unfold zoneinfolaw23_LookupRankOfTransitions.f
  repeat' first
      | (with_reducible exact ih0 _ _ _)
      | (with_reducible exact lookup_Rank.mono _ _ _)
      | (with_reducible exact zoneinfolaw23_awake.mono _)
      | (with_reducible exact zoneinforef15_Descent.mono _ _)
      | (with_reducible exact LeO.refl _)
      | (with_reducible exact LeO.none _)
      | (with_reducible refine LeO.ite ?_ ?_)
      | (with_reducible refine LeO.bind ?_ (fun _ => ?_))
      | exact ih0 _ _ _
      | exact lookup_Rank.mono _ _ _
      | exact zoneinfolaw23_awake.mono _
      | exact zoneinforef15_Descent.mono _ _
      | exact LeO.none _
      | refine LeO.ite ?_ ?_
      | refine LeO.bind ?_ (fun _ => ?_)
set_option maxHeartbeats 8000000 in
set_option maxRecDepth 100000 in
theorem zoneinfolaw23_LookupRankOfTransitions.calls (k : Nat) (A0 : Option Addr) (c0 : Nat) (l0 : List Int) (a1 : Int) (r : Bool) (w : World) (hr0 : Kd.C (Kd.int .i64) w A0 l0.length l0) (hc0 : l0.length ≤ c0) (h : zoneinfolaw23_LookupRankOfTransitions.f k l0 a1 = some r) :
    Calls Try.prog 7 #[.slice A0 l0.length c0, .int .u16 a1] w fun e w' => e = .returned (.bool r) ∧ Below w.heap.size w w' := by
  have HR0 := Aside0.mk hr0
  have HC0 := Aside0.mk hc0
  clear hr0 hc0
  have HB := Aside0.mk (Below.refl w.heap.size w)
  have H : ((zoneinfolaw23_awake.f k).bind fun t331 => (if t331 = true then (if (l0.length : Int) > 200 then (zoneinfolaw23_LookupRankOfTransitions.j0 k l0 a1 true) else (if (l0.length : Int) = 0 then (zoneinfolaw23_LookupRankOfTransitions.j0 k l0 a1 true) else ((zoneinforef15_Descent.f k l0).bind fun t332 => (zoneinfolaw23_LookupRankOfTransitions.j0 k l0 a1 (t332 != (-1)))))) else (zoneinfolaw23_LookupRankOfTransitions.j0 k l0 a1 true))) = some r := h
  clear h
  have HC3 := Aside0.mk H
  clear H
  go_enter Try.func7, Try.ntmps7
  go_upto_region 1 with (fail)
  go_cut [22] (fun v22 wc => ∃ (kq : Nat) (x22_2 : Bool), v22 = .bool x22_2 ∧ Aside0 (zoneinfolaw23_LookupRankOfTransitions.j0 kq l0 a1 x22_2 = some r) ∧ Aside0 (kq ≤ k) ∧ Aside0 (Below w.heap.size w wc))
  case first =>
    have H := HC3.out
    clear HC3
    replace H := Option.bind_eq_some_iff.mp H
    obtain ⟨t331, A40, H⟩ := H
    replace H : (if t331 = true then (if (l0.length : Int) > 200 then (zoneinfolaw23_LookupRankOfTransitions.j0 k l0 a1 true) else (if (l0.length : Int) = 0 then (zoneinfolaw23_LookupRankOfTransitions.j0 k l0 a1 true) else ((zoneinforef15_Descent.f k l0).bind fun t332 => (zoneinfolaw23_LookupRankOfTransitions.j0 k l0 a1 (t332 != (-1)))))) else (zoneinfolaw23_LookupRankOfTransitions.j0 k l0 a1 true)) = some r := H
    have A4 := Aside0.mk A40
    clear A40
    by_cases c5 : t331 = true
    · subst c5
      have H1 : (if (l0.length : Int) > 200 then (zoneinfolaw23_LookupRankOfTransitions.j0 k l0 a1 true) else (if (l0.length : Int) = 0 then (zoneinfolaw23_LookupRankOfTransitions.j0 k l0 a1 true) else ((zoneinforef15_Descent.f k l0).bind fun t332 => (zoneinfolaw23_LookupRankOfTransitions.j0 k l0 a1 (t332 != (-1)))))) = some r := by rw [if_pos rfl] at H; exact H
      clear H
      have H := H1
      clear H1
      by_cases c6 : (l0.length : Int) > 200
      · rw [if_pos c6] at H
        have c6b0 : decide (200 < (l0.length : Int)) = true := decide_eq_true c6
        have c6b1 : decide (200 < l0.length) = true := decide_eq_true (by omega)
        clear c6
        (first | rw [c6b0] | (simp only [i64_w, i32_w]; rw [c6b0]) | skip)
        have H' := Aside0.mk H
        clear H
        go_wp2_with (first | (go_at_call 8; (with_reducible refine (zoneinfolaw23_awake.calls k  true _ A4.out).mono ?_); rintro e w7 ⟨rfl, hb⟩; have n0_ := Aside0.mk (below_step (by repeat (first | (with_reducible first | exact HB.out | apply below_alloc | apply pw_below_drewN | apply below_drew1) | exact HB.out)) hb); clear HB; have HB := n0_; clear n0_; (try clear hb); (try clear hb2); (try clear hk); (try clear hi)))
        go_meet
        case rel => exact ⟨_, (true), (by first | rfl | (simp; done) | (simp [*]; done)), H', ⟨by first | omega | exact Nat.le_refl _⟩, ⟨by repeat (first | (with_reducible first | exact HB.out | apply below_alloc | apply pw_below_drewN | apply below_drew1) | exact HB.out)⟩⟩
      · rw [if_neg c6] at H
        have c6b0 : decide (200 < (l0.length : Int)) = false := decide_eq_false c6
        have c6b1 : decide (200 < l0.length) = false := decide_eq_false (by omega)
        clear c6
        (first | rw [c6b0] | (simp only [i64_w, i32_w]; rw [c6b0]) | skip)
        by_cases c8 : (l0.length : Int) = 0
        · rw [if_pos c8] at H
          have c8b0 : ((l0.length : Int) == 0) = true := beq_iff_eq.mpr c8
          have c8b1 : ((l0.length : Int) != 0) = false := bne_eq_false_iff_eq.mpr c8
          clear c8
          have H' := Aside0.mk H
          clear H
          go_wp2_with (first | (go_at_call 8; (with_reducible refine (zoneinfolaw23_awake.calls k  true _ A4.out).mono ?_); rintro e w9 ⟨rfl, hb⟩; have n0_ := Aside0.mk (below_step (by repeat (first | (with_reducible first | exact HB.out | apply below_alloc | apply pw_below_drewN | apply below_drew1) | exact HB.out)) hb); clear HB; have HB := n0_; clear n0_; (try clear hb); (try clear hb2); (try clear hk); (try clear hi)))
          go_meet
          case rel => exact ⟨_, (true), (by first | rfl | (simp; done) | (simp [*]; done)), H', ⟨by first | omega | exact Nat.le_refl _⟩, ⟨by repeat (first | (with_reducible first | exact HB.out | apply below_alloc | apply pw_below_drewN | apply below_drew1) | exact HB.out)⟩⟩
        · rw [if_neg c8] at H
          have c8b0 : ((l0.length : Int) == 0) = false := beq_eq_false_iff_ne.mpr c8
          have c8b1 : ((l0.length : Int) != 0) = true := bne_iff_ne.mpr c8
          have c8b2 : ¬ (l0 = []) := fun h_ => c8 (by rw [h_]; rfl)
          replace H := Option.bind_eq_some_iff.mp H
          obtain ⟨t332, A100, H⟩ := H
          replace H : (zoneinfolaw23_LookupRankOfTransitions.j0 k l0 a1 (t332 != (-1))) = some r := H
          have A10 := Aside0.mk A100
          clear A100
          have H' := Aside0.mk H
          clear H
          go_wp2_with (first | (go_at_call 8; (with_reducible refine (zoneinfolaw23_awake.calls k  true _ A4.out).mono ?_); rintro e w11 ⟨rfl, hb⟩; have n0_ := Aside0.mk (below_step (by repeat (first | (with_reducible first | exact HB.out | apply below_alloc | apply pw_below_drewN | apply below_drew1) | exact HB.out)) hb); clear HB; have HB := n0_; clear n0_; (try clear hb); (try clear hb2); (try clear hk); (try clear hi)) | (go_at_call 18; (with_reducible refine (zoneinforef15_Descent.calls k _ _ l0 t332 _ ?side1 ?side2 A10.out).mono ?_); (case side1 => repeat (first | exact (Kd.C_below HR0.out HB.out) | (with_reducible refine Kd.C_alloc ?_ _) | (with_reducible refine Kd.C_drewN ?_ _) | (with_reducible refine Kd.C_drew ?_))); (case side2 => exact HC0.out); rintro e w' ⟨rfl, ⟨nd, rfl⟩⟩))
          go_meet
          case rel => exact ⟨_, ((t332 != (-1))), (by first | rfl | (simp; done) | (simp [*]; done)), H', ⟨by first | omega | exact Nat.le_refl _⟩, ⟨by repeat (first | (with_reducible first | exact HB.out | apply below_alloc | apply pw_below_drewN | apply below_drew1) | exact HB.out)⟩⟩
    · replace c5 := Bool.eq_false_iff.mpr c5
      subst c5
      have H1 : (zoneinfolaw23_LookupRankOfTransitions.j0 k l0 a1 true) = some r := by rw [if_neg (show ¬ (false = true) by decide)] at H; exact H
      clear H
      have H := H1
      clear H1
      have H' := Aside0.mk H
      clear H
      go_wp2_with (first | (go_at_call 8; (with_reducible refine (zoneinfolaw23_awake.calls k  false _ A4.out).mono ?_); rintro e w12 ⟨rfl, hb⟩; have n0_ := Aside0.mk (below_step (by repeat (first | (with_reducible first | exact HB.out | apply below_alloc | apply pw_below_drewN | apply below_drew1) | exact HB.out)) hb); clear HB; have HB := n0_; clear n0_; (try clear hb); (try clear hb2); (try clear hk); (try clear hi)))
      go_meet
      case rel => exact ⟨_, (true), (by first | rfl | (simp; done) | (simp [*]; done)), H', ⟨by first | omega | exact Nat.le_refl _⟩, ⟨by repeat (first | (with_reducible first | exact HB.out | apply below_alloc | apply pw_below_drewN | apply below_drew1) | exact HB.out)⟩⟩
  case rest =>
    clear HC3
    try clear p2
    try clear c5
    try clear c6
    try clear c6b0
    try clear c6b1
    try clear c7
    try clear c8
    try clear c8b0
    try clear c8b1
    try clear c8b2
    obtain ⟨kq, x22_2, rfl, HA, HJ2, HB⟩ := hcut
    cases kq with
    | zero => exact absurd HA.out (by simp [zoneinfolaw23_LookupRankOfTransitions.j0])
    | succ kj2 =>
      have H := HA.out
      clear HA
      simp only [zoneinfolaw23_LookupRankOfTransitions.j0] at H
      by_cases c13 : x22_2 = true
      · subst c13
        have H1 : ((zoneinfolaw23_awake.f kj2).bind fun t333 => (some t333)) = some r := by rw [if_pos rfl] at H; exact H
        clear H
        have H := H1
        clear H1
        replace H := Option.bind_eq_some_iff.mp H
        obtain ⟨t333, A140, H⟩ := H
        replace H : (some t333) = some r := H
        have A14 := Aside0.mk A140
        clear A140
        obtain rfl := Option.some.inj H
        go_wp2_with (first | ((with_reducible refine gate_callee (f := 8) rfl ?_); refine goesL_ (some 23) rfl rfl Try.func8 (by kernel_rfl) rfl #[] rfl (by (try simp only [List.map_toArray, List.map_cons, List.map_nil]); first | done | rfl | (simp only [List.length_drop, List.length_take]; rfl)) ?_; (with_reducible refine (zoneinfolaw23_awake.calls kj2  t333 _ A14.out).mono ?_); rintro e w15 ⟨rfl, hb⟩; refine ⟨_, rfl, ?_⟩; have n0_ := Aside0.mk (below_step (by repeat (first | (with_reducible first | exact HB.out | apply below_alloc | apply pw_below_drewN | apply below_drew1) | exact HB.out)) hb); clear HB; have HB := n0_; clear n0_; (try clear hb); (try clear hb2); (try clear hk); (try clear hi)))
        go_ret
        exact ⟨by first | rfl | (simp [errW_none, errW_some] <;> rfl) | (simp [*, errW_none, errW_some] <;> rfl), by repeat (first | (with_reducible first | exact HB.out | apply below_alloc | apply pw_below_drewN | apply below_drew1) | exact HB.out)⟩
      · replace c13 := Bool.eq_false_iff.mpr c13
        subst c13
        have H1 : (if (l0.length : Int) = 0 then (none) else (if 0 ≤ (Int.tmod (wrap64 (a1)) (l0.length : Int)) then (if (Int.tmod (wrap64 (a1)) (l0.length : Int)) < (l0.length : Int) then ((lookup_Rank.f kj2 l0 (rd l0 (Int.tmod (wrap64 (a1)) (l0.length : Int)))).bind fun t335 => (if t335 = (wrap64 ((Int.tmod (wrap64 (a1)) (l0.length : Int)) + 1)) then (if (rd l0 (Int.tmod (wrap64 (a1)) (l0.length : Int))) = (-9223372036854775808) then ((lookup_Rank.f kj2 l0 9223372036854775807).bind fun t337 => (some (t337 == (l0.length : Int)))) else ((lookup_Rank.f kj2 l0 (wrap64 ((rd l0 (Int.tmod (wrap64 (a1)) (l0.length : Int))) - 1))).bind fun t339 => (if t339 = (Int.tmod (wrap64 (a1)) (l0.length : Int)) then ((lookup_Rank.f kj2 l0 9223372036854775807).bind fun t340 => (some (t340 == (l0.length : Int)))) else (none)))) else (none))) else (none)) else (none))) = some r := by rw [if_neg (show ¬ (false = true) by decide)] at H; exact H
        clear H
        have H := H1
        clear H1
        by_cases c16 : (l0.length : Int) = 0
        · rw [if_pos c16] at H
          exact absurd H (by simp)
        · rw [if_neg c16] at H
          have c16b0 : ((l0.length : Int) == 0) = false := beq_eq_false_iff_ne.mpr c16
          have c16b1 : ((l0.length : Int) != 0) = true := bne_iff_ne.mpr c16
          have c16b2 : ¬ (l0 = []) := fun h_ => c16 (by rw [h_]; rfl)
          obtain ⟨ji17, hji17⟩ : ∃ j_ : Int, (Int.tmod (wrap64 (a1)) (l0.length : Int)) = j_ := ⟨_, rfl⟩
          replace H : (if 0 ≤ (ji17) then (if (ji17) < (l0.length : Int) then ((lookup_Rank.f kj2 l0 (rd l0 (ji17))).bind fun t335 => (if t335 = (wrap64 ((ji17) + 1)) then (if (rd l0 (ji17)) = (-9223372036854775808) then ((lookup_Rank.f kj2 l0 9223372036854775807).bind fun t337 => (some (t337 == (l0.length : Int)))) else ((lookup_Rank.f kj2 l0 (wrap64 ((rd l0 (ji17)) - 1))).bind fun t339 => (if t339 = (ji17) then ((lookup_Rank.f kj2 l0 9223372036854775807).bind fun t340 => (some (t340 == (l0.length : Int)))) else (none)))) else (none))) else (none)) else (none)) = some r := by first | (rw [hji17] at H; exact H) | (simp only [hji17] at H ⊢; exact H)
          by_cases c18 : 0 ≤ (ji17)
          · rw [if_pos c18] at H
            have c18b0 : decide (0 ≤ (ji17)) = true := decide_eq_true c18
            clear c18
            by_cases c19 : (ji17) < (l0.length : Int)
            · rw [if_pos c19] at H
              have c19b0 : decide ((ji17) < (l0.length : Int)) = true := decide_eq_true c19
              clear c19
              replace H := Option.bind_eq_some_iff.mp H
              obtain ⟨t335, A200, H⟩ := H
              replace H : (if t335 = (wrap64 ((ji17) + 1)) then (if (rd l0 (ji17)) = (-9223372036854775808) then ((lookup_Rank.f kj2 l0 9223372036854775807).bind fun t337 => (some (t337 == (l0.length : Int)))) else ((lookup_Rank.f kj2 l0 (wrap64 ((rd l0 (ji17)) - 1))).bind fun t339 => (if t339 = (ji17) then ((lookup_Rank.f kj2 l0 9223372036854775807).bind fun t340 => (some (t340 == (l0.length : Int)))) else (none)))) else (none)) = some r := H
              have A20 := Aside0.mk A200
              clear A200
              by_cases c21 : t335 = (wrap64 ((ji17) + 1))
              · rw [if_pos c21] at H
                have c21b0 : (t335 == (wrap64 ((ji17) + 1))) = true := beq_iff_eq.mpr c21
                have c21b1 : (t335 != (wrap64 ((ji17) + 1))) = false := bne_eq_false_iff_eq.mpr c21
                clear c21
                by_cases c22 : (rd l0 (ji17)) = (-9223372036854775808)
                · rw [if_pos c22] at H
                  have c22b0 : ((rd l0 (ji17)) == (-9223372036854775808)) = true := beq_iff_eq.mpr c22
                  have c22b1 : ((rd l0 (ji17)) != (-9223372036854775808)) = false := bne_eq_false_iff_eq.mpr c22
                  clear c22
                  replace H := Option.bind_eq_some_iff.mp H
                  obtain ⟨t337, A230, H⟩ := H
                  replace H : (some (t337 == (l0.length : Int))) = some r := H
                  have A23 := Aside0.mk A230
                  clear A230
                  obtain rfl := Option.some.inj H
                  have p334 : 0 ≤ ((ji17) : Int) := of_decide_eq_true (by first | (with_reducible assumption) | assumption)
                  have q334 : (ji17) < (l0.length : Int) := of_decide_eq_true (by first | (with_reducible assumption) | assumption)
                  obtain ⟨ad334, e334, hx334_0⟩ := Kd.at_int HR0.out (ji17) p334 q334
                  cases e334
                  replace hx334_0 := (HB.out.cell (World.block_lt_of_cell? w _ hx334_0)).trans hx334_0
                  replace p334 := eq_true p334
                  replace q334 := eq_true q334
                  go_wp2_with (first | (go_at_call 10; (with_reducible refine (lookup_Rank.calls kj2 _ _ l0 (rd l0 (ji17)) t335 _ ?side1 ?side2 A20.out).mono ?_); (case side1 => repeat (first | exact (Kd.C_below HR0.out HB.out) | (with_reducible refine Kd.C_alloc ?_ _) | (with_reducible refine Kd.C_drewN ?_ _) | (with_reducible refine Kd.C_drew ?_))); (case side2 => exact HC0.out); rintro e w' ⟨rfl, ⟨nd, rfl⟩⟩; have p336 : 0 ≤ ((ji17) : Int) := of_decide_eq_true (by first | (with_reducible assumption) | assumption); have q336 : (ji17) < (l0.length : Int) := of_decide_eq_true (by first | (with_reducible assumption) | assumption); obtain ⟨ad336, e336, hx336_0⟩ := Kd.at_int HR0.out (ji17) p336 q336; obtain rfl : ad334 = ad336 := (by injection e336); replace hx336_0 := (HB.out.cell (World.block_lt_of_cell? w _ hx336_0)).trans hx336_0; replace p336 := eq_true p336; replace q336 := eq_true q336) | (go_at_call 10; (with_reducible refine (lookup_Rank.calls kj2 _ _ l0 9223372036854775807 t337 _ ?side1 ?side2 A23.out).mono ?_); (case side1 => repeat (first | exact (Kd.C_below HR0.out (by repeat (first | (with_reducible first | exact HB.out | apply below_alloc | apply pw_below_drewN | apply below_drew1) | exact HB.out))) | (with_reducible refine Kd.C_alloc ?_ _) | (with_reducible refine Kd.C_drewN ?_ _) | (with_reducible refine Kd.C_drew ?_))); (case side2 => exact HC0.out); rintro e w' ⟨rfl, ⟨nd, rfl⟩⟩))
                  go_ret
                  exact ⟨by first | rfl | (simp [errW_none, errW_some] <;> rfl) | (simp only [← hji17]; first | rfl | (simp [errW_none, errW_some] <;> rfl)) | (simp [*, errW_none, errW_some] <;> rfl), by repeat (first | (with_reducible first | exact HB.out | apply below_alloc | apply pw_below_drewN | apply below_drew1) | exact HB.out)⟩
                · rw [if_neg c22] at H
                  have c22b0 : ((rd l0 (ji17)) == (-9223372036854775808)) = false := beq_eq_false_iff_ne.mpr c22
                  have c22b1 : ((rd l0 (ji17)) != (-9223372036854775808)) = true := bne_iff_ne.mpr c22
                  replace H := Option.bind_eq_some_iff.mp H
                  obtain ⟨t339, A240, H⟩ := H
                  replace H : (if t339 = (ji17) then ((lookup_Rank.f kj2 l0 9223372036854775807).bind fun t340 => (some (t340 == (l0.length : Int)))) else (none)) = some r := H
                  have A24 := Aside0.mk A240
                  clear A240
                  by_cases c25 : t339 = (ji17)
                  · rw [if_pos c25] at H
                    have c25b0 : (t339 == (ji17)) = true := beq_iff_eq.mpr c25
                    have c25b1 : (t339 != (ji17)) = false := bne_eq_false_iff_eq.mpr c25
                    clear c25
                    replace H := Option.bind_eq_some_iff.mp H
                    obtain ⟨t340, A260, H⟩ := H
                    replace H : (some (t340 == (l0.length : Int))) = some r := H
                    have A26 := Aside0.mk A260
                    clear A260
                    obtain rfl := Option.some.inj H
                    have p334 : 0 ≤ ((ji17) : Int) := of_decide_eq_true (by first | (with_reducible assumption) | assumption)
                    have q334 : (ji17) < (l0.length : Int) := of_decide_eq_true (by first | (with_reducible assumption) | assumption)
                    obtain ⟨ad334, e334, hx334_0⟩ := Kd.at_int HR0.out (ji17) p334 q334
                    cases e334
                    replace hx334_0 := (HB.out.cell (World.block_lt_of_cell? w _ hx334_0)).trans hx334_0
                    replace p334 := eq_true p334
                    replace q334 := eq_true q334
                    go_wp2_with (first | (go_at_call 10; (with_reducible refine (lookup_Rank.calls kj2 _ _ l0 (rd l0 (ji17)) t335 _ ?side1 ?side2 A20.out).mono ?_); (case side1 => repeat (first | exact (Kd.C_below HR0.out HB.out) | (with_reducible refine Kd.C_alloc ?_ _) | (with_reducible refine Kd.C_drewN ?_ _) | (with_reducible refine Kd.C_drew ?_))); (case side2 => exact HC0.out); rintro e w' ⟨rfl, ⟨nd, rfl⟩⟩; have p336 : 0 ≤ ((ji17) : Int) := of_decide_eq_true (by first | (with_reducible assumption) | assumption); have q336 : (ji17) < (l0.length : Int) := of_decide_eq_true (by first | (with_reducible assumption) | assumption); obtain ⟨ad336, e336, hx336_0⟩ := Kd.at_int HR0.out (ji17) p336 q336; obtain rfl : ad334 = ad336 := (by injection e336); replace hx336_0 := (HB.out.cell (World.block_lt_of_cell? w _ hx336_0)).trans hx336_0; replace p336 := eq_true p336; replace q336 := eq_true q336; have p338 : 0 ≤ ((ji17) : Int) := of_decide_eq_true (by first | (with_reducible assumption) | assumption); have q338 : (ji17) < (l0.length : Int) := of_decide_eq_true (by first | (with_reducible assumption) | assumption); obtain ⟨ad338, e338, hx338_0⟩ := Kd.at_int HR0.out (ji17) p338 q338; obtain rfl : ad334 = ad338 := (by injection e338); replace hx338_0 := (HB.out.cell (World.block_lt_of_cell? w _ hx338_0)).trans hx338_0; replace p338 := eq_true p338; replace q338 := eq_true q338) | (go_at_call 10; (with_reducible refine (lookup_Rank.calls kj2 _ _ l0 (wrap64 ((rd l0 (ji17)) - 1)) t339 _ ?side1 ?side2 A24.out).mono ?_); (case side1 => repeat (first | exact (Kd.C_below HR0.out (by repeat (first | (with_reducible first | exact HB.out | apply below_alloc | apply pw_below_drewN | apply below_drew1) | exact HB.out))) | (with_reducible refine Kd.C_alloc ?_ _) | (with_reducible refine Kd.C_drewN ?_ _) | (with_reducible refine Kd.C_drew ?_))); (case side2 => exact HC0.out); rintro e w' ⟨rfl, ⟨nd, rfl⟩⟩) | (go_at_call 10; (with_reducible refine (lookup_Rank.calls kj2 _ _ l0 9223372036854775807 t340 _ ?side1 ?side2 A26.out).mono ?_); (case side1 => repeat (first | exact (Kd.C_below HR0.out (by repeat (first | (with_reducible first | exact HB.out | apply below_alloc | apply pw_below_drewN | apply below_drew1) | exact HB.out))) | (with_reducible refine Kd.C_alloc ?_ _) | (with_reducible refine Kd.C_drewN ?_ _) | (with_reducible refine Kd.C_drew ?_))); (case side2 => exact HC0.out); rintro e w' ⟨rfl, ⟨nd, rfl⟩⟩))
                    go_ret
                    exact ⟨by first | rfl | (simp [errW_none, errW_some] <;> rfl) | (simp only [← hji17]; first | rfl | (simp [errW_none, errW_some] <;> rfl)) | (simp [*, errW_none, errW_some] <;> rfl), by repeat (first | (with_reducible first | exact HB.out | apply below_alloc | apply pw_below_drewN | apply below_drew1) | exact HB.out)⟩
                  · rw [if_neg c25] at H
                    exact absurd H (by simp)
              · rw [if_neg c21] at H
                exact absurd H (by simp)
            · rw [if_neg c19] at H
              exact absurd H (by simp)
          · rw [if_neg c18] at H
            exact absurd H (by simp)

/-- THE ONE PURE STATEMENT of zoneinfolaw23_LookupRankOfTransitions: yours. -/
def zoneinfolaw23_LookupRankOfTransitions.Pure : Prop := ∀ (l0 : List Int) (a1 : Int), l0.length ≤ maxLen → l0.length * 8 ≤ 140737488351232 → (∀ x ∈ l0, (Lit.int .i64 x).wf = true) → (Lit.int .u16 a1).wf = true → ∃ k, zoneinfolaw23_LookupRankOfTransitions.f k l0 a1 = some true
theorem zoneinfolaw23_LookupRankOfTransitions.walk (P : zoneinfolaw23_LookupRankOfTransitions.Pure) (a0 : Option Addr) (len0 cap0 : Nat) (z0 : List Int) (a1 : Int) (w : World) (w0 : (a0 = none ∧ len0 = 0 ∧ cap0 = 0 ∧ z0 = []) ∨ ∃ x, a0 = some x ∧ len0 ≤ cap0 ∧ cap0 ≤ maxLen ∧ z0.length = cap0 ∧ (∀ i, i < z0.length → w.cell? (x.add i) = some (.int .i64 (z0.getD i 0))) ∧ ∀ n ∈ z0, (Lit.int .i64 n).wf = true) (y0 : len0 * 8 ≤ 140737488351232) (w1 : (Lit.int .u16 a1).wf = true) :
    Calls Try.prog 7 #[.slice a0 len0 cap0, .int .u16 a1] w fun e w' => e = .returned (.bool true) ∧ Below w.heap.size w w' := by
  obtain ⟨l0, rfl, hr0, hm0, hw0, hc0⟩ := ReadsInt.ofRowC w0
  obtain ⟨k, h⟩ := P l0 a1 hm0 y0 hw0 w1
  refine (zoneinfolaw23_LookupRankOfTransitions.calls k _ _ l0 a1 true w (Kd.C_of_reads (d := (0 : Int)) (h1 := fun _ => rfl) hr0) hc0 h).mono ?_
  rintro e w' ⟨rfl, hd⟩
  exact ⟨rfl, hd⟩

end Go.Proofs.Ytfminjencigfeaa.G
