/- Written by a program of this session for this seat: contracts of the functions that its laws reach, or the row of a law over its plain part. -/
import Derived.Test.YtchlggnbgabddaaGx0
import Derived.Test.YtchlggnbgabddaaGx19
namespace Go.Proofs.Ytchlggnbgabddaa.G
open Go.RowKit Go.Proofs.YtchlggnbgabddaaW.PrintWords Go.Proofs.YtchlggnbgabddaaW.PrintLast Go.Proofs.YtchlggnbgabddaaW.PrintMore
attribute [local go_sem] max2_int min2_int max_two min_two max_three min_three max_four min_four   -- for this text's walks alone
set_option linter.unusedVariables false
set_option linter.unusedSimpArgs false

/-! ### zoneinforef12_Plain: function 15 -/
mutual
def zoneinforef12_Plain.l0 : Nat → List ByteArray → Int → Option (Bool)
  | 0, _, _ => none
  | k + 1, x0, x3 => if x3 < (x0.length : Int) then (if 0 ≤ x3 then (if ((rdOf ByteArray.empty x0 x3).size : Int) > 300 then (some false) else (zoneinforef12_Plain.l1 k x0 x3 0)) else (none)) else (some (decide ((x0.length : Int) ≤ 60)))
def zoneinforef12_Plain.l1 : Nat → List ByteArray → Int → Int → Option (Bool)
  | 0, _, _, _ => none
  | k + 1, x0, x3, x4 => if 0 ≤ x3 then (if x3 < (x0.length : Int) then (if x4 < ((rdOf ByteArray.empty x0 x3).size : Int) then (if 0 ≤ x4 then ((zoneinforef12_Allowed.f (bt (rdOf ByteArray.empty x0 x3) x4)).bind fun t163 => (if t163 = true then (zoneinforef12_Plain.l1 k x0 x3 (wrap64 (x4 + 1))) else (some false))) else (none)) else (zoneinforef12_Plain.l0 k x0 (wrap64 (x3 + 1)))) else (none)) else (none)
end
def zoneinforef12_Plain.f (k : Nat) (l0 : List ByteArray) : Option (Bool) := zoneinforef12_Plain.l0 k l0 0
theorem zoneinforef12_Plain.mono_l : ∀ k, (∀ y0 y1, LeO (zoneinforef12_Plain.l0 k y0 y1) (zoneinforef12_Plain.l0 (k + 1) y0 y1)) ∧ (∀ y0 y1 y2, LeO (zoneinforef12_Plain.l1 k y0 y1 y2) (zoneinforef12_Plain.l1 (k + 1) y0 y1 y2))
  | 0 => ⟨fun _ _ r h => by simp [zoneinforef12_Plain.l0] at h, fun _ _ _ r h => by simp [zoneinforef12_Plain.l1] at h⟩
  | k + 1 => by
    obtain ⟨ih0, ih1⟩ := zoneinforef12_Plain.mono_l k
    refine ⟨?_, ?_⟩
    · intro y0 y1
      unfold zoneinforef12_Plain.l0
      repeat' first
      | (with_reducible exact ih0 _ _)
      | (with_reducible exact ih1 _ _ _)
      | (with_reducible exact LeO.refl _)
      | (with_reducible exact LeO.none _)
      | (with_reducible refine LeO.ite ?_ ?_)
      | (with_reducible refine LeO.bind ?_ (fun _ => ?_))
      | exact ih0 _ _
      | exact ih1 _ _ _
      | exact LeO.none _
      | refine LeO.ite ?_ ?_
      | refine LeO.bind ?_ (fun _ => ?_)
    · intro y0 y1 y2
      unfold zoneinforef12_Plain.l1
      repeat' first
      | (with_reducible exact ih0 _ _)
      | (with_reducible exact ih1 _ _ _)
      | (with_reducible exact LeO.refl _)
      | (with_reducible exact LeO.none _)
      | (with_reducible refine LeO.ite ?_ ?_)
      | (with_reducible refine LeO.bind ?_ (fun _ => ?_))
      | exact ih0 _ _
      | exact ih1 _ _ _
      | exact LeO.none _
      | refine LeO.ite ?_ ?_
      | refine LeO.bind ?_ (fun _ => ?_)
theorem zoneinforef12_Plain.mono : ∀ a0 k, LeO (zoneinforef12_Plain.f k a0) (zoneinforef12_Plain.f (k + 1) a0) := by
  intro a0 k
  obtain ⟨ih0, ih1⟩ := zoneinforef12_Plain.mono_l k
  unfold zoneinforef12_Plain.f
  repeat' first
      | (with_reducible exact ih0 _ _)
      | (with_reducible exact ih1 _ _ _)
      | (with_reducible exact LeO.refl _)
      | (with_reducible exact LeO.none _)
      | (with_reducible refine LeO.ite ?_ ?_)
      | (with_reducible refine LeO.bind ?_ (fun _ => ?_))
      | exact ih0 _ _
      | exact ih1 _ _ _
      | exact LeO.none _
      | refine LeO.ite ?_ ?_
      | refine LeO.bind ?_ (fun _ => ?_)
set_option maxHeartbeats 8000000 in
set_option maxRecDepth 100000 in
theorem zoneinforef12_Plain.calls (k : Nat) (A0 : Option Addr) (c0 : Nat) (l0 : List ByteArray) (r : Bool) (w : World) (hr0 : Kd.C Kd.string w A0 l0.length l0) (hc0 : l0.length ≤ c0) (h : zoneinforef12_Plain.f k l0 = some r) :
    Calls Try.prog 15 #[.slice A0 l0.length c0] w fun e w' => e = .returned (.bool r) ∧ Drawn0 w w' := by
  have HR0 := Aside0.mk hr0
  have HC0 := Aside0.mk hc0
  clear hr0 hc0
  have H : (zoneinforef12_Plain.l0 k l0 0) = some r := h
  clear h
  have H' := Aside0.mk H
  clear H
  go_enter Try.func15, Try.ntmps15
  go_wp2
  go_loopg [3] k (fun kq v3 w' => ∃ (x3_1 : Int), v3 = .int .i64 x3_1 ∧ Aside0 (zoneinforef12_Plain.l0 kq l0 x3_1 = some r) ∧ Aside0 (kq ≤ k) ∧ Drawn0 w w')
  case atStart => exact ⟨(0), (by first | rfl | (simp; done) | (simp [*]; done)), H', ⟨Nat.le_refl _⟩, by repeat (first | exact Drawn0.refl _ | apply Drawn0.step)⟩
  case round =>
    clear H'
    try clear c1
    obtain ⟨x3_1, rfl, HA, HK1, ⟨m1, rfl⟩⟩ := hrel
    cases gk with
    | zero => exact absurd HA.out (by simp [zoneinforef12_Plain.l0])
    | succ k1 =>
      have H := HA.out
      clear HA
      simp only [zoneinforef12_Plain.l0] at H
      by_cases c2 : x3_1 < (l0.length : Int)
      · rw [if_pos c2] at H
        have c2b0 : decide (x3_1 < (l0.length : Int)) = true := decide_eq_true c2
        clear c2
        by_cases c3 : 0 ≤ x3_1
        · rw [if_pos c3] at H
          have c3b0 : decide (0 ≤ x3_1) = true := decide_eq_true c3
          clear c3
          by_cases c4 : ((rdOf ByteArray.empty l0 x3_1).size : Int) > 300
          · rw [if_pos c4] at H
            have c4b0 : decide (300 < ((rdOf ByteArray.empty l0 x3_1).size : Int)) = true := decide_eq_true c4
            have c4b1 : decide (300 < (rdOf ByteArray.empty l0 x3_1).size) = true := decide_eq_true (by omega)
            clear c4
            obtain rfl := Option.some.inj H
            have p160 : 0 ≤ (x3_1 : Int) := of_decide_eq_true (by first | (with_reducible assumption) | assumption)
            have q160 : x3_1 < (l0.length : Int) := of_decide_eq_true (by first | (with_reducible assumption) | assumption)
            obtain ⟨ad160, e160, hx160_0⟩ := Kd.at_string HR0.out x3_1 p160 q160
            cases e160
            replace p160 := eq_true p160
            replace q160 := eq_true q160
            go_wp2
            go_ret
            exact ⟨by first | rfl | (simp; done) | (simp [*]; done), by repeat (first | exact Drawn0.refl _ | apply Drawn0.step)⟩
          · rw [if_neg c4] at H
            have c4b0 : decide (300 < ((rdOf ByteArray.empty l0 x3_1).size : Int)) = false := decide_eq_false c4
            have c4b1 : decide (300 < (rdOf ByteArray.empty l0 x3_1).size) = false := decide_eq_false (by omega)
            clear c4
            have H' := Aside0.mk H
            clear H
            have p160 : 0 ≤ (x3_1 : Int) := of_decide_eq_true (by first | (with_reducible assumption) | assumption)
            have q160 : x3_1 < (l0.length : Int) := of_decide_eq_true (by first | (with_reducible assumption) | assumption)
            obtain ⟨ad160, e160, hx160_0⟩ := Kd.at_string HR0.out x3_1 p160 q160
            cases e160
            replace p160 := eq_true p160
            replace q160 := eq_true q160
            go_wp2
            go_loopg [4] k1 (fun kq v4 w' => ∃ (x4_2 : Int), v4 = .int .i64 x4_2 ∧ Aside0 (zoneinforef12_Plain.l1 kq l0 x3_1 x4_2 = some r) ∧ Aside0 (kq ≤ k1) ∧ Drawn0 w w')
            case atStart => exact ⟨(0), (by first | rfl | (simp; done) | (simp [*]; done)), H', ⟨Nat.le_refl _⟩, by repeat (first | exact Drawn0.refl _ | apply Drawn0.step)⟩
            case round =>
              clear H'
              try clear c1
              try clear p1
              try clear q1
              try clear hx1
              try clear c2
              try clear c2b0
              try clear p2
              try clear c3
              try clear c3b0
              try clear c4
              try clear c4b0
              try clear c4b1
              try clear hx160_0
              try clear p160
              try clear q160
              obtain ⟨x4_2, rfl, HA, HK2, ⟨m2, rfl⟩⟩ := hrel
              cases gk with
              | zero => exact absurd HA.out (by simp [zoneinforef12_Plain.l1])
              | succ k2 =>
                have H := HA.out
                clear HA
                simp only [zoneinforef12_Plain.l1] at H
                by_cases c5 : 0 ≤ x3_1
                · rw [if_pos c5] at H
                  have c5b0 : decide (0 ≤ x3_1) = true := decide_eq_true c5
                  clear c5
                  by_cases c6 : x3_1 < (l0.length : Int)
                  · rw [if_pos c6] at H
                    have c6b0 : decide (x3_1 < (l0.length : Int)) = true := decide_eq_true c6
                    clear c6
                    by_cases c7 : x4_2 < ((rdOf ByteArray.empty l0 x3_1).size : Int)
                    · rw [if_pos c7] at H
                      have c7b0 : decide (x4_2 < ((rdOf ByteArray.empty l0 x3_1).size : Int)) = true := decide_eq_true c7
                      clear c7
                      by_cases c8 : 0 ≤ x4_2
                      · rw [if_pos c8] at H
                        have c8b0 : decide (0 ≤ x4_2) = true := decide_eq_true c8
                        clear c8
                        replace H := Option.bind_eq_some_iff.mp H
                        obtain ⟨t163, A100, H⟩ := H
                        replace H : (if t163 = true then (zoneinforef12_Plain.l1 k2 l0 x3_1 (wrap64 (x4_2 + 1))) else (some false)) = some r := H
                        have A10 := Aside0.mk A100
                        clear A100
                        by_cases c11 : t163 = true
                        · subst c11
                          have H1 : (zoneinforef12_Plain.l1 k2 l0 x3_1 (wrap64 (x4_2 + 1))) = some r := by rw [if_pos rfl] at H; exact H
                          clear H
                          have H := H1
                          clear H1
                          have H' := Aside0.mk H
                          clear H
                          have p161 : 0 ≤ (x3_1 : Int) := of_decide_eq_true (by first | (with_reducible assumption) | assumption)
                          have q161 : x3_1 < (l0.length : Int) := of_decide_eq_true (by first | (with_reducible assumption) | assumption)
                          obtain ⟨ad161, e161, hx161_0⟩ := Kd.at_string HR0.out x3_1 p161 q161
                          obtain rfl : ad160 = ad161 := (by injection e161)
                          replace p161 := eq_true p161
                          replace q161 := eq_true q161
                          have p162 : 0 ≤ (x3_1 : Int) := of_decide_eq_true (by first | (with_reducible assumption) | assumption)
                          have q162 : x3_1 < (l0.length : Int) := of_decide_eq_true (by first | (with_reducible assumption) | assumption)
                          obtain ⟨ad162, e162, hx162_0⟩ := Kd.at_string HR0.out x3_1 p162 q162
                          obtain rfl : ad160 = ad162 := (by injection e162)
                          replace p162 := eq_true p162
                          replace q162 := eq_true q162
                          have p9 : 0 ≤ (x4_2 : Int) := of_decide_eq_true (by first | (with_reducible assumption) | assumption)
                          have q9 : x4_2 < ((rdOf ByteArray.empty l0 x3_1).size : Int) := of_decide_eq_true (by first | (with_reducible assumption) | assumption)
                          have hx9 := bt_at (rdOf ByteArray.empty l0 x3_1) x4_2
                          replace p9 := eq_true p9
                          replace q9 := eq_true q9
                          go_wp2_with (first | ((with_reducible refine gate_callee (f := 19) rfl ?_); refine goesL_ (some 32) rfl rfl Try.func19 (by kernel_rfl) rfl #[.int .u8 (bt (rdOf ByteArray.empty l0 x3_1) x4_2)] rfl (by (try simp only [List.map_toArray, List.map_cons, List.map_nil]); first | done | rfl | (simp only [List.length_drop, List.length_take]; rfl)) ?_; (with_reducible refine (zoneinforef12_Allowed.calls (bt (rdOf ByteArray.empty l0 x3_1) x4_2) true _ A10.out).mono ?_); rintro e w' ⟨rfl, ⟨nd, rfl⟩⟩; refine ⟨_, rfl, ?_⟩))
                          go_roundg k2
                          case measure => have := HK1.out; have := HK2.out; omega
                          case rel => exact ⟨(wrap64 (x4_2 + 1)), (by first | rfl | (simp; done) | (simp [*]; done)), H', ⟨by have := HK1.out; have := HK2.out; omega⟩, by repeat (first | exact Drawn0.refl _ | apply Drawn0.step)⟩
                        · replace c11 := Bool.eq_false_iff.mpr c11
                          subst c11
                          have H1 : (some false) = some r := by rw [if_neg (show ¬ (false = true) by decide)] at H; exact H
                          clear H
                          have H := H1
                          clear H1
                          obtain rfl := Option.some.inj H
                          have p161 : 0 ≤ (x3_1 : Int) := of_decide_eq_true (by first | (with_reducible assumption) | assumption)
                          have q161 : x3_1 < (l0.length : Int) := of_decide_eq_true (by first | (with_reducible assumption) | assumption)
                          obtain ⟨ad161, e161, hx161_0⟩ := Kd.at_string HR0.out x3_1 p161 q161
                          obtain rfl : ad160 = ad161 := (by injection e161)
                          replace p161 := eq_true p161
                          replace q161 := eq_true q161
                          have p162 : 0 ≤ (x3_1 : Int) := of_decide_eq_true (by first | (with_reducible assumption) | assumption)
                          have q162 : x3_1 < (l0.length : Int) := of_decide_eq_true (by first | (with_reducible assumption) | assumption)
                          obtain ⟨ad162, e162, hx162_0⟩ := Kd.at_string HR0.out x3_1 p162 q162
                          obtain rfl : ad160 = ad162 := (by injection e162)
                          replace p162 := eq_true p162
                          replace q162 := eq_true q162
                          have p9 : 0 ≤ (x4_2 : Int) := of_decide_eq_true (by first | (with_reducible assumption) | assumption)
                          have q9 : x4_2 < ((rdOf ByteArray.empty l0 x3_1).size : Int) := of_decide_eq_true (by first | (with_reducible assumption) | assumption)
                          have hx9 := bt_at (rdOf ByteArray.empty l0 x3_1) x4_2
                          replace p9 := eq_true p9
                          replace q9 := eq_true q9
                          go_wp2_with (first | ((with_reducible refine gate_callee (f := 19) rfl ?_); refine goesL_ (some 32) rfl rfl Try.func19 (by kernel_rfl) rfl #[.int .u8 (bt (rdOf ByteArray.empty l0 x3_1) x4_2)] rfl (by (try simp only [List.map_toArray, List.map_cons, List.map_nil]); first | done | rfl | (simp only [List.length_drop, List.length_take]; rfl)) ?_; (with_reducible refine (zoneinforef12_Allowed.calls (bt (rdOf ByteArray.empty l0 x3_1) x4_2) false _ A10.out).mono ?_); rintro e w' ⟨rfl, ⟨nd, rfl⟩⟩; refine ⟨_, rfl, ?_⟩))
                          go_ret
                          exact ⟨by first | rfl | (simp; done) | (simp [*]; done), by repeat (first | exact Drawn0.refl _ | apply Drawn0.step)⟩
                      · rw [if_neg c8] at H
                        exact absurd H (by simp)
                    · rw [if_neg c7] at H
                      have c7b0 : decide (x4_2 < ((rdOf ByteArray.empty l0 x3_1).size : Int)) = false := decide_eq_false c7
                      clear c7
                      have H' := Aside0.mk H
                      clear H
                      have p161 : 0 ≤ (x3_1 : Int) := of_decide_eq_true (by first | (with_reducible assumption) | assumption)
                      have q161 : x3_1 < (l0.length : Int) := of_decide_eq_true (by first | (with_reducible assumption) | assumption)
                      obtain ⟨ad161, e161, hx161_0⟩ := Kd.at_string HR0.out x3_1 p161 q161
                      obtain rfl : ad160 = ad161 := (by injection e161)
                      replace p161 := eq_true p161
                      replace q161 := eq_true q161
                      go_wp2
                      go_roundg k2
                      case measure => have := HK1.out; have := HK2.out; omega
                      case rel => exact ⟨(wrap64 (x3_1 + 1)), (by first | rfl | (simp; done) | (simp [*]; done)), H', ⟨by have := HK1.out; have := HK2.out; omega⟩, by repeat (first | exact Drawn0.refl _ | apply Drawn0.step)⟩
                  · rw [if_neg c6] at H
                    exact absurd H (by simp)
                · rw [if_neg c5] at H
                  exact absurd H (by simp)
        · rw [if_neg c3] at H
          exact absurd H (by simp)
      · rw [if_neg c2] at H
        have c2b0 : decide (x3_1 < (l0.length : Int)) = false := decide_eq_false c2
        clear c2
        obtain rfl := Option.some.inj H
        go_wp2
        go_ret
        exact ⟨by first | rfl | (simp; done) | (simp [*]; done), by repeat (first | exact Drawn0.refl _ | apply Drawn0.step)⟩

end Go.Proofs.Ytchlggnbgabddaa.G
