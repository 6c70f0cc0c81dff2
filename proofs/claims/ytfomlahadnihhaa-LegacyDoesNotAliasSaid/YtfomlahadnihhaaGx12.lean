/- Written by a program of this session for this seat: contracts of the functions that its laws reach, or the row of a law over its plain part. -/
import Derived.Test.YtfomlahadnihhaaGx0
namespace Go.Proofs.Ytfomlahadnihhaa.G
open Go.RowKit Go.Proofs.YtfomlahadnihhaaW.PrintWords Go.Proofs.YtfomlahadnihhaaW.PrintLast Go.Proofs.YtfomlahadnihhaaW.PrintMore
attribute [local go_sem] max2_int min2_int max_two min_two max_three min_three max_four min_four   -- for this text's walks alone
set_option linter.unusedVariables false
set_option linter.unusedSimpArgs false

/-! ### zoneinforef18_Consistent: function 42 -/
def zoneinforef18_Consistent.l0 : Nat → List Bool → List Bool → Int → Option (Bool)
  | 0, _, _, _ => none
  | k + 1, x0, x1, x5 => if x5 < (x1.length : Int) then (if x5 < (x0.length : Int) then (if 0 ≤ x5 then (if rdOf false x1 x5 = true then (if rdOf false x0 x5 = true then (zoneinforef18_Consistent.l0 k x0 x1 (wrap64 (x5 + 1))) else (some false)) else (zoneinforef18_Consistent.l0 k x0 x1 (wrap64 (x5 + 1)))) else (none)) else (if 0 ≤ x5 then (if rdOf false x1 x5 = true then (some false) else (zoneinforef18_Consistent.l0 k x0 x1 (wrap64 (x5 + 1)))) else (none))) else (some true)
def zoneinforef18_Consistent.f (k : Nat) (l0 : List Bool) (l1 : List Bool) : Option (Bool) := zoneinforef18_Consistent.l0 k l0 l1 0
theorem zoneinforef18_Consistent.mono_l : ∀ k, (∀ y0 y1 y2, LeO (zoneinforef18_Consistent.l0 k y0 y1 y2) (zoneinforef18_Consistent.l0 (k + 1) y0 y1 y2))
  | 0 => fun _ _ _ r h => by simp [zoneinforef18_Consistent.l0] at h
  | k + 1 => by
    have ih0 := zoneinforef18_Consistent.mono_l k
    · intro y0 y1 y2
      unfold zoneinforef18_Consistent.l0
      repeat' first
      | (with_reducible exact ih0 _ _ _)
      | (with_reducible exact LeO.refl _)
      | (with_reducible exact LeO.none _)
      | (with_reducible refine LeO.ite ?_ ?_)
      | (with_reducible refine LeO.bind ?_ (fun _ => ?_))
      | exact ih0 _ _ _
      | exact LeO.none _
      | refine LeO.ite ?_ ?_
      | refine LeO.bind ?_ (fun _ => ?_)
theorem zoneinforef18_Consistent.mono : ∀ a0 a1 k, LeO (zoneinforef18_Consistent.f k a0 a1) (zoneinforef18_Consistent.f (k + 1) a0 a1) := by
  intro a0 a1 k; have ih0 := zoneinforef18_Consistent.mono_l k
  unfold zoneinforef18_Consistent.f
  repeat' first
      | (with_reducible exact ih0 _ _ _)
      | (with_reducible exact LeO.refl _)
      | (with_reducible exact LeO.none _)
      | (with_reducible refine LeO.ite ?_ ?_)
      | (with_reducible refine LeO.bind ?_ (fun _ => ?_))
      | exact ih0 _ _ _
      | exact LeO.none _
      | refine LeO.ite ?_ ?_
      | refine LeO.bind ?_ (fun _ => ?_)
set_option maxHeartbeats 8000000 in
set_option maxRecDepth 100000 in
theorem zoneinforef18_Consistent.calls (k : Nat) (A0 : Option Addr) (c0 : Nat) (l0 : List Bool) (A1 : Option Addr) (c1 : Nat) (l1 : List Bool) (r : Bool) (w : World) (hr0 : Kd.C Kd.bool w A0 l0.length l0) (hc0 : l0.length ≤ c0) (hr1 : Kd.C Kd.bool w A1 l1.length l1) (hc1 : l1.length ≤ c1) (h : zoneinforef18_Consistent.f k l0 l1 = some r) :
    Calls Try.prog 42 #[.slice A0 l0.length c0, .slice A1 l1.length c1] w fun e w' => e = .returned (.bool r) ∧ Drawn0 w w' := by
  have HR0 := Aside0.mk hr0; have HC0 := Aside0.mk hc0; clear hr0 hc0; have HR1 := Aside0.mk hr1; have HC1 := Aside0.mk hc1; clear hr1 hc1; have H : (zoneinforef18_Consistent.l0 k l0 l1 0) = some r := h; clear h; have H' := Aside0.mk H; clear H
  go_enter Try.func42, Try.ntmps42
  go_wp2
  go_loopg [5] k (fun kq v5 w' => ∃ (x5_1 : Int), v5 = .int .i64 x5_1 ∧ Aside0 (zoneinforef18_Consistent.l0 kq l0 l1 x5_1 = some r) ∧ Aside0 (kq ≤ k) ∧ Drawn0 w w')
  case atStart => exact ⟨(0), (by first | rfl | (simp; done) | (simp [*]; done)), H', ⟨Nat.le_refl _⟩, by repeat (first | exact Drawn0.refl _ | apply Drawn0.step)⟩
  case round =>
    clear H'; (try clear c1); (try clear p2); obtain ⟨x5_1, rfl, HA, HK1, ⟨m1, rfl⟩⟩ := hrel
    cases gk with
    | zero => exact absurd HA.out (by simp [zoneinforef18_Consistent.l0])
    | succ k1 =>
      have H := HA.out; clear HA
      simp only [zoneinforef18_Consistent.l0] at H
      by_cases c3 : x5_1 < (l1.length : Int)
      · rw [if_pos c3] at H
        have c3b0 : decide (x5_1 < (l1.length : Int)) = true := decide_eq_true c3; clear c3
        by_cases c4 : x5_1 < (l0.length : Int)
        · rw [if_pos c4] at H
          have c4b0 : decide (x5_1 < (l0.length : Int)) = true := decide_eq_true c4; clear c4
          by_cases c5 : 0 ≤ x5_1
          · rw [if_pos c5] at H
            have c5b0 : decide (0 ≤ x5_1) = true := decide_eq_true c5; clear c5
            obtain ⟨bq6, hbq6⟩ : ∃ b_ : Bool, b_ = (rdOf false l1 x5_1) := ⟨_, rfl⟩
            replace H : (if bq6 = true then (if rdOf false l0 x5_1 = true then (zoneinforef18_Consistent.l0 k1 l0 l1 (wrap64 (x5_1 + 1))) else (some false)) else (zoneinforef18_Consistent.l0 k1 l0 l1 (wrap64 (x5_1 + 1)))) = some r := by rw [← hbq6] at H; exact H
            have Nbq6 := Aside0.mk hbq6; clear hbq6
            by_cases c7 : bq6 = true
            · subst c7
              have H1 : (if rdOf false l0 x5_1 = true then (zoneinforef18_Consistent.l0 k1 l0 l1 (wrap64 (x5_1 + 1))) else (some false)) = some r := by rw [if_pos rfl] at H; exact H
              clear H; have H := H1; clear H1
              obtain ⟨bq8, hbq8⟩ : ∃ b_ : Bool, b_ = (rdOf false l0 x5_1) := ⟨_, rfl⟩
              replace H : (if bq8 = true then (zoneinforef18_Consistent.l0 k1 l0 l1 (wrap64 (x5_1 + 1))) else (some false)) = some r := by rw [← hbq8] at H; exact H
              have Nbq8 := Aside0.mk hbq8; clear hbq8
              by_cases c9 : bq8 = true
              · subst c9
                have H1 : (zoneinforef18_Consistent.l0 k1 l0 l1 (wrap64 (x5_1 + 1))) = some r := by rw [if_pos rfl] at H; exact H
                clear H; have H := H1; clear H1; have H' := Aside0.mk H; clear H; have p210 : 0 ≤ (x5_1 : Int) := of_decide_eq_true (by first | (with_reducible assumption) | assumption); have q210 : x5_1 < (l0.length : Int) := of_decide_eq_true (by first | (with_reducible assumption) | assumption); obtain ⟨ad210, e210, hx210_0⟩ := Kd.at_bool HR0.out x5_1 p210 q210; (try rw [← Nbq6.out] at hx210_0); (try rw [← Nbq8.out] at hx210_0)
                cases e210
                replace p210 := eq_true p210; replace q210 := eq_true q210; have p211 : 0 ≤ (x5_1 : Int) := of_decide_eq_true (by first | (with_reducible assumption) | assumption); have q211 : x5_1 < (l1.length : Int) := of_decide_eq_true (by first | (with_reducible assumption) | assumption); obtain ⟨ad211, e211, hx211_0⟩ := Kd.at_bool HR1.out x5_1 p211 q211; (try rw [← Nbq6.out] at hx211_0); (try rw [← Nbq8.out] at hx211_0)
                cases e211
                replace p211 := eq_true p211; replace q211 := eq_true q211; go_wp2
                go_roundg k1
                case measure => have := HK1.out; omega
                case rel => exact ⟨(wrap64 (x5_1 + 1)), (by first | rfl | (simp; done) | (simp [*]; done)), H', ⟨by have := HK1.out; omega⟩, by repeat (first | exact Drawn0.refl _ | apply Drawn0.step)⟩
              · replace c9 := Bool.eq_false_iff.mpr c9
                subst c9
                have H1 : (some false) = some r := by rw [if_neg (show ¬ (false = true) by decide)] at H; exact H
                clear H; have H := H1; clear H1
                obtain rfl := Option.some.inj H
                have p210 : 0 ≤ (x5_1 : Int) := of_decide_eq_true (by first | (with_reducible assumption) | assumption); have q210 : x5_1 < (l0.length : Int) := of_decide_eq_true (by first | (with_reducible assumption) | assumption); obtain ⟨ad210, e210, hx210_0⟩ := Kd.at_bool HR0.out x5_1 p210 q210; (try rw [← Nbq6.out] at hx210_0); (try rw [← Nbq8.out] at hx210_0)
                cases e210
                replace p210 := eq_true p210; replace q210 := eq_true q210; have p211 : 0 ≤ (x5_1 : Int) := of_decide_eq_true (by first | (with_reducible assumption) | assumption); have q211 : x5_1 < (l1.length : Int) := of_decide_eq_true (by first | (with_reducible assumption) | assumption); obtain ⟨ad211, e211, hx211_0⟩ := Kd.at_bool HR1.out x5_1 p211 q211; (try rw [← Nbq6.out] at hx211_0); (try rw [← Nbq8.out] at hx211_0)
                cases e211
                replace p211 := eq_true p211; replace q211 := eq_true q211; go_wp2
                go_ret
                exact ⟨by first | rfl | (simp; done) | (simp [*]; done), by repeat (first | exact Drawn0.refl _ | apply Drawn0.step)⟩
            · replace c7 := Bool.eq_false_iff.mpr c7
              subst c7
              have H1 : (zoneinforef18_Consistent.l0 k1 l0 l1 (wrap64 (x5_1 + 1))) = some r := by rw [if_neg (show ¬ (false = true) by decide)] at H; exact H
              clear H; have H := H1; clear H1; have H' := Aside0.mk H; clear H; have p210 : 0 ≤ (x5_1 : Int) := of_decide_eq_true (by first | (with_reducible assumption) | assumption); have q210 : x5_1 < (l0.length : Int) := of_decide_eq_true (by first | (with_reducible assumption) | assumption); obtain ⟨ad210, e210, hx210_0⟩ := Kd.at_bool HR0.out x5_1 p210 q210; (try rw [← Nbq6.out] at hx210_0)
              cases e210
              replace p210 := eq_true p210; replace q210 := eq_true q210; have p211 : 0 ≤ (x5_1 : Int) := of_decide_eq_true (by first | (with_reducible assumption) | assumption); have q211 : x5_1 < (l1.length : Int) := of_decide_eq_true (by first | (with_reducible assumption) | assumption); obtain ⟨ad211, e211, hx211_0⟩ := Kd.at_bool HR1.out x5_1 p211 q211; (try rw [← Nbq6.out] at hx211_0)
              cases e211
              replace p211 := eq_true p211; replace q211 := eq_true q211; go_wp2
              go_roundg k1
              case measure => have := HK1.out; omega
              case rel => exact ⟨(wrap64 (x5_1 + 1)), (by first | rfl | (simp; done) | (simp [*]; done)), H', ⟨by have := HK1.out; omega⟩, by repeat (first | exact Drawn0.refl _ | apply Drawn0.step)⟩
          · rw [if_neg c5] at H
            exact absurd H (by simp)
        · rw [if_neg c4] at H
          have c4b0 : decide (x5_1 < (l0.length : Int)) = false := decide_eq_false c4; clear c4
          by_cases c10 : 0 ≤ x5_1
          · rw [if_pos c10] at H
            have c10b0 : decide (0 ≤ x5_1) = true := decide_eq_true c10; clear c10
            obtain ⟨bq11, hbq11⟩ : ∃ b_ : Bool, b_ = (rdOf false l1 x5_1) := ⟨_, rfl⟩
            replace H : (if bq11 = true then (some false) else (zoneinforef18_Consistent.l0 k1 l0 l1 (wrap64 (x5_1 + 1)))) = some r := by rw [← hbq11] at H; exact H
            have Nbq11 := Aside0.mk hbq11; clear hbq11
            by_cases c12 : bq11 = true
            · subst c12
              have H1 : (some false) = some r := by rw [if_pos rfl] at H; exact H
              clear H; have H := H1; clear H1
              obtain rfl := Option.some.inj H
              have p212 : 0 ≤ (x5_1 : Int) := of_decide_eq_true (by first | (with_reducible assumption) | assumption); have q212 : x5_1 < (l1.length : Int) := of_decide_eq_true (by first | (with_reducible assumption) | assumption); obtain ⟨ad212, e212, hx212_0⟩ := Kd.at_bool HR1.out x5_1 p212 q212; (try rw [← Nbq11.out] at hx212_0)
              cases e212
              replace p212 := eq_true p212; replace q212 := eq_true q212; go_wp2
              go_ret
              exact ⟨by first | rfl | (simp; done) | (simp [*]; done), by repeat (first | exact Drawn0.refl _ | apply Drawn0.step)⟩
            · replace c12 := Bool.eq_false_iff.mpr c12
              subst c12
              have H1 : (zoneinforef18_Consistent.l0 k1 l0 l1 (wrap64 (x5_1 + 1))) = some r := by rw [if_neg (show ¬ (false = true) by decide)] at H; exact H
              clear H; have H := H1; clear H1; have H' := Aside0.mk H; clear H; have p212 : 0 ≤ (x5_1 : Int) := of_decide_eq_true (by first | (with_reducible assumption) | assumption); have q212 : x5_1 < (l1.length : Int) := of_decide_eq_true (by first | (with_reducible assumption) | assumption); obtain ⟨ad212, e212, hx212_0⟩ := Kd.at_bool HR1.out x5_1 p212 q212; (try rw [← Nbq11.out] at hx212_0)
              cases e212
              replace p212 := eq_true p212; replace q212 := eq_true q212; go_wp2
              go_roundg k1
              case measure => have := HK1.out; omega
              case rel => exact ⟨(wrap64 (x5_1 + 1)), (by first | rfl | (simp; done) | (simp [*]; done)), H', ⟨by have := HK1.out; omega⟩, by repeat (first | exact Drawn0.refl _ | apply Drawn0.step)⟩
          · rw [if_neg c10] at H
            exact absurd H (by simp)
      · rw [if_neg c3] at H
        have c3b0 : decide (x5_1 < (l1.length : Int)) = false := decide_eq_false c3; clear c3
        obtain rfl := Option.some.inj H
        go_wp2
        go_ret
        exact ⟨by first | rfl | (simp; done) | (simp [*]; done), by repeat (first | exact Drawn0.refl _ | apply Drawn0.step)⟩

end Go.Proofs.Ytfomlahadnihhaa.G
