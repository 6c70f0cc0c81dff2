/- Written by a program of this session for this seat: contracts of the functions that its laws reach, or the row of a law over its plain part. -/
import Derived.Test.YtfomlahadnihhaaGx0
namespace Go.Proofs.Ytfomlahadnihhaa.G
open Go.RowKit Go.Proofs.YtfomlahadnihhaaW.PrintWords Go.Proofs.YtfomlahadnihhaaW.PrintLast Go.Proofs.YtfomlahadnihhaaW.PrintMore
attribute [local go_sem] max2_int min2_int max_two min_two max_three min_three max_four min_four   -- for this text's walks alone
set_option linter.unusedVariables false
set_option linter.unusedSimpArgs false

/-! ### zoneinforef17_Valid: function 41 -/
mutual
def zoneinforef17_Valid.l0 : Nat → List (S42) → Int → Int → Option (Bool)
  | 0, _, _, _ => none
  | k + 1, x0, x1, x5 => if x5 < (x0.length : Int) then (if 0 ≤ x5 then (if x5 = 0 then (if 0 < (x0.length : Int) then (if ((rd_T42 x0 0).f0) < 0 then (some false) else (if x1 < 4 then (if (wrap64 ((rd_T42 x0 x5).f1)) = 1 then (zoneinforef17_Valid.l0 k x0 x1 (wrap64 (x5 + 1))) else (if (wrap64 ((rd_T42 x0 x5).f1)) = (-1) then (zoneinforef17_Valid.l0 k x0 x1 (wrap64 (x5 + 1))) else (some false))) else (zoneinforef17_Valid.l0 k x0 x1 (wrap64 (x5 + 1))))) else (none)) else (if 0 ≤ (wrap64 (x5 - 1)) then (if (wrap64 (x5 - 1)) < (x0.length : Int) then (if ((rd_T42 x0 x5).f0) < ((rd_T42 x0 (wrap64 (x5 - 1))).f0) then (zoneinforef17_Valid.j1 k x0 x1 x5 (wrap64 ((wrap64 ((rd_T42 x0 x5).f1)) - (wrap64 ((rd_T42 x0 (wrap64 (x5 - 1))).f1)))) (x5 == (wrap64 ((x0.length : Int) - 1))) true) else (zoneinforef17_Valid.j1 k x0 x1 x5 (wrap64 ((wrap64 ((rd_T42 x0 x5).f1)) - (wrap64 ((rd_T42 x0 (wrap64 (x5 - 1))).f1)))) (x5 == (wrap64 ((x0.length : Int) - 1))) (decide ((wrap64 (((rd_T42 x0 x5).f0) - ((rd_T42 x0 (wrap64 (x5 - 1))).f0))) < 2419199)))) else (none)) else (none))) else (none)) else (some true)
def zoneinforef17_Valid.j1 : Nat → List (S42) → Int → Int → Int → Bool → Bool → Option (Bool)
  | 0, _, _, _, _, _, _ => none
  | k + 1, x0, x1, x5, x7, x8, x80 => if x80 = true then (some false) else (if x7 = 1 then (zoneinforef17_Valid.l0 k x0 x1 (wrap64 (x5 + 1))) else (if x7 = (-1) then (zoneinforef17_Valid.l0 k x0 x1 (wrap64 (x5 + 1))) else (if x7 = 0 then (if x1 < 4 then (some false) else (if x8 = true then (zoneinforef17_Valid.l0 k x0 x1 (wrap64 (x5 + 1))) else (some false))) else (some false))))
end
def zoneinforef17_Valid.f (k : Nat) (l0 : List (S42)) (a1 : Int) : Option (Bool) := zoneinforef17_Valid.l0 k l0 a1 0
theorem zoneinforef17_Valid.mono_l : ∀ k, (∀ y0 y1 y2, LeO (zoneinforef17_Valid.l0 k y0 y1 y2) (zoneinforef17_Valid.l0 (k + 1) y0 y1 y2)) ∧ (∀ y0 y1 y2 y3 y4 y5, LeO (zoneinforef17_Valid.j1 k y0 y1 y2 y3 y4 y5) (zoneinforef17_Valid.j1 (k + 1) y0 y1 y2 y3 y4 y5))
  | 0 => ⟨fun _ _ _ r h => by simp [zoneinforef17_Valid.l0] at h, fun _ _ _ _ _ _ r h => by simp [zoneinforef17_Valid.j1] at h⟩
  | k + 1 => by
    obtain ⟨ih0, ih1⟩ := zoneinforef17_Valid.mono_l k; refine ⟨?_, ?_⟩
    · intro y0 y1 y2
      unfold zoneinforef17_Valid.l0
      repeat' first
      | (with_reducible exact ih0 _ _ _)
      | (with_reducible exact ih1 _ _ _ _ _ _)
      | (with_reducible exact LeO.refl _)
      | (with_reducible exact LeO.none _)
      | (with_reducible refine LeO.ite ?_ ?_)
      | (with_reducible refine LeO.bind ?_ (fun _ => ?_))
      | exact ih0 _ _ _
      | exact ih1 _ _ _ _ _ _
      | exact LeO.none _
      | refine LeO.ite ?_ ?_
      | refine LeO.bind ?_ (fun _ => ?_)
    · intro y0 y1 y2 y3 y4 y5
      unfold zoneinforef17_Valid.j1
      repeat' first
      | (with_reducible exact ih0 _ _ _)
      | (with_reducible exact ih1 _ _ _ _ _ _)
      | (with_reducible exact LeO.refl _)
      | (with_reducible exact LeO.none _)
      | (with_reducible refine LeO.ite ?_ ?_)
      | (with_reducible refine LeO.bind ?_ (fun _ => ?_))
      | exact ih0 _ _ _
      | exact ih1 _ _ _ _ _ _
      | exact LeO.none _
      | refine LeO.ite ?_ ?_
      | refine LeO.bind ?_ (fun _ => ?_)
theorem zoneinforef17_Valid.mono : ∀ a0 a1 k, LeO (zoneinforef17_Valid.f k a0 a1) (zoneinforef17_Valid.f (k + 1) a0 a1) := by
  intro a0 a1 k; obtain ⟨ih0, ih1⟩ := zoneinforef17_Valid.mono_l k
  unfold zoneinforef17_Valid.f
  repeat' first
      | (with_reducible exact ih0 _ _ _)
      | (with_reducible exact ih1 _ _ _ _ _ _)
      | (with_reducible exact LeO.refl _)
      | (with_reducible exact LeO.none _)
      | (with_reducible refine LeO.ite ?_ ?_)
      | (with_reducible refine LeO.bind ?_ (fun _ => ?_))
      | exact ih0 _ _ _
      | exact ih1 _ _ _ _ _ _
      | exact LeO.none _
      | refine LeO.ite ?_ ?_
      | refine LeO.bind ?_ (fun _ => ?_)
set_option maxHeartbeats 8000000 in
set_option maxRecDepth 100000 in
theorem zoneinforef17_Valid.calls (k : Nat) (A0 : Option Addr) (c0 : Nat) (l0 : List (S42)) (a1 : Int) (r : Bool) (w : World) (hr0 : Kd.C k42 w A0 l0.length l0) (hc0 : l0.length ≤ c0) (h : zoneinforef17_Valid.f k l0 a1 = some r) :
    Calls Try.prog 41 #[.slice A0 l0.length c0, .int .i64 a1] w fun e w' => e = .returned (.bool r) ∧ Drawn0 w w' := by
  have HR0 := Aside0.mk hr0; have HC0 := Aside0.mk hc0; clear hr0 hc0; have H : (zoneinforef17_Valid.l0 k l0 a1 0) = some r := h; clear h; have H' := Aside0.mk H; clear H
  go_enter Try.func41, Try.ntmps41
  (try simp only [List.append_eq, List.cons_append, List.nil_append]); go_wp2
  repeat (go_quiet (fail); try go_wp2)
  go_loopg [5] k (fun kq v5 w' => ∃ (x5_1 : Int), v5 = .int .i64 x5_1 ∧ Aside0 (zoneinforef17_Valid.l0 kq l0 a1 x5_1 = some r) ∧ Aside0 (kq ≤ k) ∧ Drawn0 w w')
  case atStart => exact ⟨(0), (by first | rfl | (simp; done) | (simp [*]; done)), H', ⟨Nat.le_refl _⟩, by repeat (first | exact Drawn0.refl _ | apply Drawn0.step)⟩
  case round =>
    clear H'; (try clear p2); obtain ⟨x5_1, rfl, HA, HK1, ⟨m1, rfl⟩⟩ := hrel
    cases gk with
    | zero => exact absurd HA.out (by simp [zoneinforef17_Valid.l0])
    | succ k1 =>
      have H := HA.out; clear HA
      simp only [zoneinforef17_Valid.l0] at H
      by_cases c3 : x5_1 < (l0.length : Int)
      · rw [if_pos c3] at H
        have c3b0 : decide (x5_1 < (l0.length : Int)) = true := decide_eq_true c3; clear c3
        by_cases c4 : 0 ≤ x5_1
        · rw [if_pos c4] at H
          have c4b0 : decide (0 ≤ x5_1) = true := decide_eq_true c4; clear c4
          by_cases c5 : x5_1 = 0
          · rw [if_pos c5] at H
            have c5b0 : (x5_1 == 0) = true := beq_iff_eq.mpr c5; have c5b1 : (x5_1 != 0) = false := bne_eq_false_iff_eq.mpr c5; clear c5
            by_cases c6 : 0 < (l0.length : Int)
            · rw [if_pos c6] at H
              have c6b0 : decide (0 < (l0.length : Int)) = true := decide_eq_true c6; have c6b1 : decide (0 < l0.length) = true := decide_eq_true (by omega); clear c6
              by_cases c7 : ((rd_T42 l0 0).f0) < 0
              · rw [if_pos c7] at H
                have c7b0 : decide (((rd_T42 l0 0).f0) < 0) = true := decide_eq_true c7; clear c7
                obtain rfl := Option.some.inj H
                have p203 : 0 ≤ (x5_1 : Int) := of_decide_eq_true (by first | (with_reducible assumption) | assumption); have q203 : x5_1 < (l0.length : Int) := of_decide_eq_true (by first | (with_reducible assumption) | assumption); obtain ⟨ad203, e203, hx203_0, hx203_1⟩ := at_T42 HR0.out x5_1 p203 q203
                cases e203
                replace p203 := eq_true p203; replace q203 := eq_true q203; have p204 : 0 ≤ (0 : Int) := (by omega); have q204 : 0 < (l0.length : Int) := of_decide_eq_true (by first | (with_reducible assumption) | assumption); obtain ⟨ad204, e204, hx204_0, hx204_1⟩ := at_T42 HR0.out 0 p204 q204
                obtain rfl : ad203 = ad204 := (by injection e204)
                have qi204 : (0 < l0.length) = True := eq_true (by omega); (try rw [show ((0 : Int)).toNat = 0 from rfl] at hx204_0); (try rw [show 0 * 2 = 0 from rfl] at hx204_0); (try rw [Addr.add_zero'] at hx204_0); (try rw [show ((0 : Int)).toNat = 0 from rfl] at hx204_1); (try rw [show 0 * 2 = 0 from rfl] at hx204_1); (try rw [Addr.add_zero'] at hx204_1); replace p204 := eq_true p204; replace q204 := eq_true q204; go_wp2
                repeat (go_quiet (fail); try go_wp2)
                go_ret
                exact ⟨by first | rfl | (simp; done) | (simp [*]; done), by repeat (first | exact Drawn0.refl _ | apply Drawn0.step)⟩
              · rw [if_neg c7] at H
                have c7b0 : decide (((rd_T42 l0 0).f0) < 0) = false := decide_eq_false c7; clear c7
                by_cases c8 : a1 < 4
                · rw [if_pos c8] at H
                  have c8b0 : decide (a1 < 4) = true := decide_eq_true c8; clear c8
                  by_cases c9 : (wrap64 ((rd_T42 l0 x5_1).f1)) = 1
                  · rw [if_pos c9] at H
                    have c9b0 : ((wrap64 ((rd_T42 l0 x5_1).f1)) == 1) = true := beq_iff_eq.mpr c9; have c9b1 : ((wrap64 ((rd_T42 l0 x5_1).f1)) != 1) = false := bne_eq_false_iff_eq.mpr c9; clear c9; have H' := Aside0.mk H; clear H; have p203 : 0 ≤ (x5_1 : Int) := of_decide_eq_true (by first | (with_reducible assumption) | assumption); have q203 : x5_1 < (l0.length : Int) := of_decide_eq_true (by first | (with_reducible assumption) | assumption); obtain ⟨ad203, e203, hx203_0, hx203_1⟩ := at_T42 HR0.out x5_1 p203 q203
                    cases e203
                    replace p203 := eq_true p203; replace q203 := eq_true q203; have p204 : 0 ≤ (0 : Int) := (by omega); have q204 : 0 < (l0.length : Int) := of_decide_eq_true (by first | (with_reducible assumption) | assumption); obtain ⟨ad204, e204, hx204_0, hx204_1⟩ := at_T42 HR0.out 0 p204 q204
                    obtain rfl : ad203 = ad204 := (by injection e204)
                    have qi204 : (0 < l0.length) = True := eq_true (by omega); (try rw [show ((0 : Int)).toNat = 0 from rfl] at hx204_0); (try rw [show 0 * 2 = 0 from rfl] at hx204_0); (try rw [Addr.add_zero'] at hx204_0); (try rw [show ((0 : Int)).toNat = 0 from rfl] at hx204_1); (try rw [show 0 * 2 = 0 from rfl] at hx204_1); (try rw [Addr.add_zero'] at hx204_1); replace p204 := eq_true p204; replace q204 := eq_true q204; go_wp2
                    repeat (go_quiet (fail); try go_wp2)
                    go_roundg k1
                    case measure => have := HK1.out; omega
                    case rel => exact ⟨(wrap64 (x5_1 + 1)), (by first | rfl | (simp; done) | (simp [*]; done)), H', ⟨by have := HK1.out; omega⟩, by repeat (first | exact Drawn0.refl _ | apply Drawn0.step)⟩
                  · rw [if_neg c9] at H
                    have c9b0 : ((wrap64 ((rd_T42 l0 x5_1).f1)) == 1) = false := beq_eq_false_iff_ne.mpr c9; have c9b1 : ((wrap64 ((rd_T42 l0 x5_1).f1)) != 1) = true := bne_iff_ne.mpr c9
                    by_cases c10 : (wrap64 ((rd_T42 l0 x5_1).f1)) = (-1)
                    · rw [if_pos c10] at H
                      have c10b0 : ((wrap64 ((rd_T42 l0 x5_1).f1)) == (-1)) = true := beq_iff_eq.mpr c10; have c10b1 : ((wrap64 ((rd_T42 l0 x5_1).f1)) != (-1)) = false := bne_eq_false_iff_eq.mpr c10; clear c10; have H' := Aside0.mk H; clear H; have p203 : 0 ≤ (x5_1 : Int) := of_decide_eq_true (by first | (with_reducible assumption) | assumption); have q203 : x5_1 < (l0.length : Int) := of_decide_eq_true (by first | (with_reducible assumption) | assumption); obtain ⟨ad203, e203, hx203_0, hx203_1⟩ := at_T42 HR0.out x5_1 p203 q203
                      cases e203
                      replace p203 := eq_true p203; replace q203 := eq_true q203; have p204 : 0 ≤ (0 : Int) := (by omega); have q204 : 0 < (l0.length : Int) := of_decide_eq_true (by first | (with_reducible assumption) | assumption); obtain ⟨ad204, e204, hx204_0, hx204_1⟩ := at_T42 HR0.out 0 p204 q204
                      obtain rfl : ad203 = ad204 := (by injection e204)
                      have qi204 : (0 < l0.length) = True := eq_true (by omega); (try rw [show ((0 : Int)).toNat = 0 from rfl] at hx204_0); (try rw [show 0 * 2 = 0 from rfl] at hx204_0); (try rw [Addr.add_zero'] at hx204_0); (try rw [show ((0 : Int)).toNat = 0 from rfl] at hx204_1); (try rw [show 0 * 2 = 0 from rfl] at hx204_1); (try rw [Addr.add_zero'] at hx204_1); replace p204 := eq_true p204; replace q204 := eq_true q204; go_wp2
                      repeat (go_quiet (fail); try go_wp2)
                      go_roundg k1
                      case measure => have := HK1.out; omega
                      case rel => exact ⟨(wrap64 (x5_1 + 1)), (by first | rfl | (simp; done) | (simp [*]; done)), H', ⟨by have := HK1.out; omega⟩, by repeat (first | exact Drawn0.refl _ | apply Drawn0.step)⟩
                    · rw [if_neg c10] at H
                      have c10b0 : ((wrap64 ((rd_T42 l0 x5_1).f1)) == (-1)) = false := beq_eq_false_iff_ne.mpr c10; have c10b1 : ((wrap64 ((rd_T42 l0 x5_1).f1)) != (-1)) = true := bne_iff_ne.mpr c10
                      obtain rfl := Option.some.inj H
                      have p203 : 0 ≤ (x5_1 : Int) := of_decide_eq_true (by first | (with_reducible assumption) | assumption); have q203 : x5_1 < (l0.length : Int) := of_decide_eq_true (by first | (with_reducible assumption) | assumption); obtain ⟨ad203, e203, hx203_0, hx203_1⟩ := at_T42 HR0.out x5_1 p203 q203
                      cases e203
                      replace p203 := eq_true p203; replace q203 := eq_true q203; have p204 : 0 ≤ (0 : Int) := (by omega); have q204 : 0 < (l0.length : Int) := of_decide_eq_true (by first | (with_reducible assumption) | assumption); obtain ⟨ad204, e204, hx204_0, hx204_1⟩ := at_T42 HR0.out 0 p204 q204
                      obtain rfl : ad203 = ad204 := (by injection e204)
                      have qi204 : (0 < l0.length) = True := eq_true (by omega); (try rw [show ((0 : Int)).toNat = 0 from rfl] at hx204_0); (try rw [show 0 * 2 = 0 from rfl] at hx204_0); (try rw [Addr.add_zero'] at hx204_0); (try rw [show ((0 : Int)).toNat = 0 from rfl] at hx204_1); (try rw [show 0 * 2 = 0 from rfl] at hx204_1); (try rw [Addr.add_zero'] at hx204_1); replace p204 := eq_true p204; replace q204 := eq_true q204; go_wp2
                      repeat (go_quiet (fail); try go_wp2)
                      go_ret
                      exact ⟨by first | rfl | (simp; done) | (simp [*]; done), by repeat (first | exact Drawn0.refl _ | apply Drawn0.step)⟩
                · rw [if_neg c8] at H
                  have c8b0 : decide (a1 < 4) = false := decide_eq_false c8; clear c8; have H' := Aside0.mk H; clear H; have p203 : 0 ≤ (x5_1 : Int) := of_decide_eq_true (by first | (with_reducible assumption) | assumption); have q203 : x5_1 < (l0.length : Int) := of_decide_eq_true (by first | (with_reducible assumption) | assumption); obtain ⟨ad203, e203, hx203_0, hx203_1⟩ := at_T42 HR0.out x5_1 p203 q203
                  cases e203
                  replace p203 := eq_true p203; replace q203 := eq_true q203; have p204 : 0 ≤ (0 : Int) := (by omega); have q204 : 0 < (l0.length : Int) := of_decide_eq_true (by first | (with_reducible assumption) | assumption); obtain ⟨ad204, e204, hx204_0, hx204_1⟩ := at_T42 HR0.out 0 p204 q204
                  obtain rfl : ad203 = ad204 := (by injection e204)
                  have qi204 : (0 < l0.length) = True := eq_true (by omega); (try rw [show ((0 : Int)).toNat = 0 from rfl] at hx204_0); (try rw [show 0 * 2 = 0 from rfl] at hx204_0); (try rw [Addr.add_zero'] at hx204_0); (try rw [show ((0 : Int)).toNat = 0 from rfl] at hx204_1); (try rw [show 0 * 2 = 0 from rfl] at hx204_1); (try rw [Addr.add_zero'] at hx204_1); replace p204 := eq_true p204; replace q204 := eq_true q204; go_wp2
                  repeat (go_quiet (fail); try go_wp2)
                  go_roundg k1
                  case measure => have := HK1.out; omega
                  case rel => exact ⟨(wrap64 (x5_1 + 1)), (by first | rfl | (simp; done) | (simp [*]; done)), H', ⟨by have := HK1.out; omega⟩, by repeat (first | exact Drawn0.refl _ | apply Drawn0.step)⟩
            · rw [if_neg c6] at H
              exact absurd H (by simp)
          · rw [if_neg c5] at H
            have c5b0 : (x5_1 == 0) = false := beq_eq_false_iff_ne.mpr c5; have c5b1 : (x5_1 != 0) = true := bne_iff_ne.mpr c5
            obtain ⟨ji11, hji11⟩ : ∃ j_ : Int, (wrap64 (x5_1 - 1)) = j_ := ⟨_, rfl⟩
            replace H : (if 0 ≤ (ji11) then (if (ji11) < (l0.length : Int) then (if ((rd_T42 l0 x5_1).f0) < ((rd_T42 l0 (ji11)).f0) then (zoneinforef17_Valid.j1 k1 l0 a1 x5_1 (wrap64 ((wrap64 ((rd_T42 l0 x5_1).f1)) - (wrap64 ((rd_T42 l0 (ji11)).f1)))) (x5_1 == (wrap64 ((l0.length : Int) - 1))) true) else (zoneinforef17_Valid.j1 k1 l0 a1 x5_1 (wrap64 ((wrap64 ((rd_T42 l0 x5_1).f1)) - (wrap64 ((rd_T42 l0 (ji11)).f1)))) (x5_1 == (wrap64 ((l0.length : Int) - 1))) (decide ((wrap64 (((rd_T42 l0 x5_1).f0) - ((rd_T42 l0 (ji11)).f0))) < 2419199)))) else (none)) else (none)) = some r := by first | (rw [hji11] at H; exact H) | (simp only [hji11] at H ⊢; exact H)
            have hji11w : (IntKind.i64.wrap (x5_1 - 1)) = ji11 := (i64_w _).trans hji11
            by_cases c12 : 0 ≤ (ji11)
            · rw [if_pos c12] at H
              have c12b0 : decide (0 ≤ (ji11)) = true := decide_eq_true c12; clear c12
              by_cases c13 : (ji11) < (l0.length : Int)
              · rw [if_pos c13] at H
                have c13b0 : decide ((ji11) < (l0.length : Int)) = true := decide_eq_true c13; clear c13; have HC14 := Aside0.mk H; clear H; have p203 : 0 ≤ (x5_1 : Int) := of_decide_eq_true (by first | (with_reducible assumption) | assumption); have q203 : x5_1 < (l0.length : Int) := of_decide_eq_true (by first | (with_reducible assumption) | assumption); obtain ⟨ad203, e203, hx203_0, hx203_1⟩ := at_T42 HR0.out x5_1 p203 q203
                cases e203
                replace p203 := eq_true p203; replace q203 := eq_true q203; have p205 : 0 ≤ ((ji11) : Int) := of_decide_eq_true (by first | (with_reducible assumption) | assumption); have q205 : (ji11) < (l0.length : Int) := of_decide_eq_true (by first | (with_reducible assumption) | assumption); obtain ⟨ad205, e205, hx205_0, hx205_1⟩ := at_T42 HR0.out (ji11) p205 q205
                obtain rfl : ad203 = ad205 := (by injection e205)
                replace p205 := eq_true p205; replace q205 := eq_true q205
                go_upto_region 10 with (fail)
                repeat (go_quiet (fail); go_upto_region 10 with (fail))
                go_cut [80] (fun v80 wc => ∃ (kq : Nat) (x80_13 : Bool), v80 = .bool x80_13 ∧ Aside0 (zoneinforef17_Valid.j1 kq l0 a1 x5_1 (wrap64 ((wrap64 ((rd_T42 l0 x5_1).f1)) - (wrap64 ((rd_T42 l0 (ji11)).f1)))) (x5_1 == (wrap64 ((l0.length : Int) - 1))) x80_13 = some r) ∧ Aside0 (kq ≤ k1) ∧ Drawn0 w wc)
                case first =>
                  have H := HC14.out; clear HC14
                  by_cases c15 : ((rd_T42 l0 x5_1).f0) < ((rd_T42 l0 (ji11)).f0)
                  · rw [if_pos c15] at H
                    have c15b0 : decide (((rd_T42 l0 x5_1).f0) < ((rd_T42 l0 (ji11)).f0)) = true := decide_eq_true c15; clear c15; (first | rw [c15b0] | (simp only [i64_w, i32_w]; rw [c15b0]) | skip); have H' := Aside0.mk H; clear H; have p206 : 0 ≤ (x5_1 : Int) := of_decide_eq_true (by first | (with_reducible assumption) | assumption); have q206 : x5_1 < (l0.length : Int) := of_decide_eq_true (by first | (with_reducible assumption) | assumption); obtain ⟨ad206, e206, hx206_0, hx206_1⟩ := at_T42 HR0.out x5_1 p206 q206
                    obtain rfl : ad203 = ad206 := (by injection e206)
                    replace p206 := eq_true p206; replace q206 := eq_true q206; have p207 : 0 ≤ ((ji11) : Int) := of_decide_eq_true (by first | (with_reducible assumption) | assumption); have q207 : (ji11) < (l0.length : Int) := of_decide_eq_true (by first | (with_reducible assumption) | assumption); obtain ⟨ad207, e207, hx207_0, hx207_1⟩ := at_T42 HR0.out (ji11) p207 q207
                    obtain rfl : ad203 = ad207 := (by injection e207)
                    replace p207 := eq_true p207; replace q207 := eq_true q207; go_wp2
                    repeat (go_quiet (fail); try go_wp2)
                    go_meet
                    case rel => exact ⟨_, (true), (by first | rfl | (simp; done) | (simp [*]; done)), H', ⟨by have := HK1.out; first | omega | exact Nat.le_refl _⟩, by repeat (first | exact Drawn0.refl _ | apply Drawn0.step)⟩
                  · rw [if_neg c15] at H
                    have c15b0 : decide (((rd_T42 l0 x5_1).f0) < ((rd_T42 l0 (ji11)).f0)) = false := decide_eq_false c15; clear c15; (first | rw [c15b0] | (simp only [i64_w, i32_w]; rw [c15b0]) | skip); have H' := Aside0.mk H; clear H; have p206 : 0 ≤ (x5_1 : Int) := of_decide_eq_true (by first | (with_reducible assumption) | assumption); have q206 : x5_1 < (l0.length : Int) := of_decide_eq_true (by first | (with_reducible assumption) | assumption); obtain ⟨ad206, e206, hx206_0, hx206_1⟩ := at_T42 HR0.out x5_1 p206 q206
                    obtain rfl : ad203 = ad206 := (by injection e206)
                    replace p206 := eq_true p206; replace q206 := eq_true q206; have p207 : 0 ≤ ((ji11) : Int) := of_decide_eq_true (by first | (with_reducible assumption) | assumption); have q207 : (ji11) < (l0.length : Int) := of_decide_eq_true (by first | (with_reducible assumption) | assumption); obtain ⟨ad207, e207, hx207_0, hx207_1⟩ := at_T42 HR0.out (ji11) p207 q207
                    obtain rfl : ad203 = ad207 := (by injection e207)
                    replace p207 := eq_true p207; replace q207 := eq_true q207; have p208 : 0 ≤ (x5_1 : Int) := of_decide_eq_true (by first | (with_reducible assumption) | assumption); have q208 : x5_1 < (l0.length : Int) := of_decide_eq_true (by first | (with_reducible assumption) | assumption); obtain ⟨ad208, e208, hx208_0, hx208_1⟩ := at_T42 HR0.out x5_1 p208 q208
                    obtain rfl : ad203 = ad208 := (by injection e208)
                    replace p208 := eq_true p208; replace q208 := eq_true q208; have p209 : 0 ≤ ((ji11) : Int) := of_decide_eq_true (by first | (with_reducible assumption) | assumption); have q209 : (ji11) < (l0.length : Int) := of_decide_eq_true (by first | (with_reducible assumption) | assumption); obtain ⟨ad209, e209, hx209_0, hx209_1⟩ := at_T42 HR0.out (ji11) p209 q209
                    obtain rfl : ad203 = ad209 := (by injection e209)
                    replace p209 := eq_true p209; replace q209 := eq_true q209; go_wp2
                    repeat (go_quiet (fail); try go_wp2)
                    go_meet
                    case rel => exact ⟨_, (decide ((wrap64 (((rd_T42 l0 x5_1).f0) - ((rd_T42 l0 (ji11)).f0))) < 2419199)), (by first | rfl | (simp; done) | (simp only [← hji11] <;> (first | rfl | simp)) | (simp [*]; done)), H', ⟨by have := HK1.out; first | omega | exact Nat.le_refl _⟩, by repeat (first | exact Drawn0.refl _ | apply Drawn0.step)⟩
                case rest =>
                  clear HC14; (try clear c1); (try clear p2); (try clear q2); (try clear hx2); (try clear qi2); (try clear c3); (try clear c3b0); (try clear c4); (try clear c4b0); (try clear c5); (try clear c5b0); (try clear c5b1); (try clear c6); (try clear c6b0); (try clear c6b1); (try clear p6); (try clear c7); (try clear c7b0); (try clear c8); (try clear c8b0); (try clear c9); (try clear c9b0); (try clear c9b1); (try clear c10); (try clear c10b0); (try clear c10b1); (try clear c12); (try clear c12b0); (try clear c13); (try clear c13b0); (try clear c15); (try clear c15b0); (try clear hx203_0); (try clear hx203_1); (try clear hx204_0); (try clear hx204_1); (try clear hx205_0); (try clear hx205_1); (try clear hx206_0); (try clear hx206_1); (try clear hx207_0); (try clear hx207_1); (try clear hx208_0); (try clear hx208_1); (try clear hx209_0); (try clear hx209_1); (try clear p2); (try clear p203); (try clear p204); (try clear p205); (try clear p206); (try clear p207); (try clear p208); (try clear p209); (try clear q203); (try clear q204); (try clear q205); (try clear q206); (try clear q207); (try clear q208); (try clear q209); obtain ⟨kq, x80_13, rfl, HA, HJ13, ⟨mc13, rfl⟩⟩ := hcut
                  cases kq with
                  | zero => exact absurd HA.out (by simp [zoneinforef17_Valid.j1])
                  | succ kj13 =>
                    have H := HA.out; clear HA
                    simp only [zoneinforef17_Valid.j1] at H
                    by_cases c16 : x80_13 = true
                    · subst c16
                      have H1 : (some false) = some r := by rw [if_pos rfl] at H; exact H
                      clear H; have H := H1; clear H1
                      obtain rfl := Option.some.inj H
                      go_wp2
                      repeat (go_quiet (fail); try go_wp2)
                      go_ret
                      exact ⟨by first | rfl | (simp; done) | (simp only [← hji11] <;> (first | rfl | simp)) | (simp [*]; done), by repeat (first | exact Drawn0.refl _ | apply Drawn0.step)⟩
                    · replace c16 := Bool.eq_false_iff.mpr c16
                      subst c16
                      have H1 : (if (wrap64 ((wrap64 ((rd_T42 l0 x5_1).f1)) - (wrap64 ((rd_T42 l0 (ji11)).f1)))) = 1 then (zoneinforef17_Valid.l0 kj13 l0 a1 (wrap64 (x5_1 + 1))) else (if (wrap64 ((wrap64 ((rd_T42 l0 x5_1).f1)) - (wrap64 ((rd_T42 l0 (ji11)).f1)))) = (-1) then (zoneinforef17_Valid.l0 kj13 l0 a1 (wrap64 (x5_1 + 1))) else (if (wrap64 ((wrap64 ((rd_T42 l0 x5_1).f1)) - (wrap64 ((rd_T42 l0 (ji11)).f1)))) = 0 then (if a1 < 4 then (some false) else (if (x5_1 == (wrap64 ((l0.length : Int) - 1))) = true then (zoneinforef17_Valid.l0 kj13 l0 a1 (wrap64 (x5_1 + 1))) else (some false))) else (some false)))) = some r := by rw [if_neg (show ¬ (false = true) by decide)] at H; exact H
                      clear H; have H := H1; clear H1
                      by_cases c17 : (wrap64 ((wrap64 ((rd_T42 l0 x5_1).f1)) - (wrap64 ((rd_T42 l0 (ji11)).f1)))) = 1
                      · rw [if_pos c17] at H
                        have c17b0 : ((wrap64 ((wrap64 ((rd_T42 l0 x5_1).f1)) - (wrap64 ((rd_T42 l0 (ji11)).f1)))) == 1) = true := beq_iff_eq.mpr c17; have c17b1 : ((wrap64 ((wrap64 ((rd_T42 l0 x5_1).f1)) - (wrap64 ((rd_T42 l0 (ji11)).f1)))) != 1) = false := bne_eq_false_iff_eq.mpr c17; clear c17; have H' := Aside0.mk H; clear H; go_wp2
                        repeat (go_quiet (fail); try go_wp2)
                        go_roundg kj13
                        case measure => have := HK1.out; have := HJ13.out; omega
                        case rel => exact ⟨(wrap64 (x5_1 + 1)), (by first | rfl | (simp; done) | (simp [*]; done)), H', ⟨by have := HK1.out; have := HJ13.out; omega⟩, by repeat (first | exact Drawn0.refl _ | apply Drawn0.step)⟩
                      · rw [if_neg c17] at H
                        have c17b0 : ((wrap64 ((wrap64 ((rd_T42 l0 x5_1).f1)) - (wrap64 ((rd_T42 l0 (ji11)).f1)))) == 1) = false := beq_eq_false_iff_ne.mpr c17; have c17b1 : ((wrap64 ((wrap64 ((rd_T42 l0 x5_1).f1)) - (wrap64 ((rd_T42 l0 (ji11)).f1)))) != 1) = true := bne_iff_ne.mpr c17
                        by_cases c18 : (wrap64 ((wrap64 ((rd_T42 l0 x5_1).f1)) - (wrap64 ((rd_T42 l0 (ji11)).f1)))) = (-1)
                        · rw [if_pos c18] at H
                          have c18b0 : ((wrap64 ((wrap64 ((rd_T42 l0 x5_1).f1)) - (wrap64 ((rd_T42 l0 (ji11)).f1)))) == (-1)) = true := beq_iff_eq.mpr c18; have c18b1 : ((wrap64 ((wrap64 ((rd_T42 l0 x5_1).f1)) - (wrap64 ((rd_T42 l0 (ji11)).f1)))) != (-1)) = false := bne_eq_false_iff_eq.mpr c18; clear c18; have H' := Aside0.mk H; clear H; go_wp2
                          repeat (go_quiet (fail); try go_wp2)
                          go_roundg kj13
                          case measure => have := HK1.out; have := HJ13.out; omega
                          case rel => exact ⟨(wrap64 (x5_1 + 1)), (by first | rfl | (simp; done) | (simp [*]; done)), H', ⟨by have := HK1.out; have := HJ13.out; omega⟩, by repeat (first | exact Drawn0.refl _ | apply Drawn0.step)⟩
                        · rw [if_neg c18] at H
                          have c18b0 : ((wrap64 ((wrap64 ((rd_T42 l0 x5_1).f1)) - (wrap64 ((rd_T42 l0 (ji11)).f1)))) == (-1)) = false := beq_eq_false_iff_ne.mpr c18; have c18b1 : ((wrap64 ((wrap64 ((rd_T42 l0 x5_1).f1)) - (wrap64 ((rd_T42 l0 (ji11)).f1)))) != (-1)) = true := bne_iff_ne.mpr c18
                          by_cases c19 : (wrap64 ((wrap64 ((rd_T42 l0 x5_1).f1)) - (wrap64 ((rd_T42 l0 (ji11)).f1)))) = 0
                          · rw [if_pos c19] at H
                            have c19b0 : ((wrap64 ((wrap64 ((rd_T42 l0 x5_1).f1)) - (wrap64 ((rd_T42 l0 (ji11)).f1)))) == 0) = true := beq_iff_eq.mpr c19; have c19b1 : ((wrap64 ((wrap64 ((rd_T42 l0 x5_1).f1)) - (wrap64 ((rd_T42 l0 (ji11)).f1)))) != 0) = false := bne_eq_false_iff_eq.mpr c19; clear c19
                            by_cases c20 : a1 < 4
                            · rw [if_pos c20] at H
                              have c20b0 : decide (a1 < 4) = true := decide_eq_true c20; clear c20
                              obtain rfl := Option.some.inj H
                              go_wp2
                              repeat (go_quiet (fail); try go_wp2)
                              go_ret
                              exact ⟨by first | rfl | (simp; done) | (simp only [← hji11] <;> (first | rfl | simp)) | (simp [*]; done), by repeat (first | exact Drawn0.refl _ | apply Drawn0.step)⟩
                            · rw [if_neg c20] at H
                              have c20b0 : decide (a1 < 4) = false := decide_eq_false c20; clear c20
                              by_cases c21 : (x5_1 == (wrap64 ((l0.length : Int) - 1))) = true
                              · rw [if_pos c21] at H
                                have c21b0 : (x5_1 == (wrap64 ((l0.length : Int) - 1))) = true := c21; (try (have c21b1 : decide (x5_1 = (wrap64 ((l0.length : Int) - 1))) = true := by simpa using c21)); (try (have c21b2 : (x5_1 == (wrap64 ((l0.length : Int) - 1))) = true := by simpa using c21)); clear c21; have H' := Aside0.mk H; clear H; go_wp2
                                repeat (go_quiet (fail); try go_wp2)
                                go_roundg kj13
                                case measure => have := HK1.out; have := HJ13.out; omega
                                case rel => exact ⟨(wrap64 (x5_1 + 1)), (by first | rfl | (simp; done) | (simp [*]; done)), H', ⟨by have := HK1.out; have := HJ13.out; omega⟩, by repeat (first | exact Drawn0.refl _ | apply Drawn0.step)⟩
                              · rw [if_neg c21] at H
                                have c21b0 : (x5_1 == (wrap64 ((l0.length : Int) - 1))) = false := by simpa using c21
                                (try (have c21b1 : decide (x5_1 = (wrap64 ((l0.length : Int) - 1))) = false := by simpa using c21)); (try (have c21b2 : (x5_1 == (wrap64 ((l0.length : Int) - 1))) = false := by simpa using c21)); (try (have c21b3 : ¬ (x5_1 = (wrap64 ((l0.length : Int) - 1))) := by simpa using c21)); clear c21
                                obtain rfl := Option.some.inj H
                                go_wp2
                                repeat (go_quiet (fail); try go_wp2)
                                go_ret
                                exact ⟨by first | rfl | (simp; done) | (simp only [← hji11] <;> (first | rfl | simp)) | (simp [*]; done), by repeat (first | exact Drawn0.refl _ | apply Drawn0.step)⟩
                          · rw [if_neg c19] at H
                            have c19b0 : ((wrap64 ((wrap64 ((rd_T42 l0 x5_1).f1)) - (wrap64 ((rd_T42 l0 (ji11)).f1)))) == 0) = false := beq_eq_false_iff_ne.mpr c19; have c19b1 : ((wrap64 ((wrap64 ((rd_T42 l0 x5_1).f1)) - (wrap64 ((rd_T42 l0 (ji11)).f1)))) != 0) = true := bne_iff_ne.mpr c19
                            obtain rfl := Option.some.inj H
                            go_wp2
                            repeat (go_quiet (fail); try go_wp2)
                            go_ret
                            exact ⟨by first | rfl | (simp; done) | (simp only [← hji11] <;> (first | rfl | simp)) | (simp [*]; done), by repeat (first | exact Drawn0.refl _ | apply Drawn0.step)⟩
              · rw [if_neg c13] at H
                exact absurd H (by simp)
            · rw [if_neg c12] at H
              exact absurd H (by simp)
        · rw [if_neg c4] at H
          exact absurd H (by simp)
      · rw [if_neg c3] at H
        have c3b0 : decide (x5_1 < (l0.length : Int)) = false := decide_eq_false c3; clear c3
        obtain rfl := Option.some.inj H
        go_wp2
        repeat (go_quiet (fail); try go_wp2)
        go_ret
        exact ⟨by first | rfl | (simp; done) | (simp [*]; done), by repeat (first | exact Drawn0.refl _ | apply Drawn0.step)⟩

end Go.Proofs.Ytfomlahadnihhaa.G
