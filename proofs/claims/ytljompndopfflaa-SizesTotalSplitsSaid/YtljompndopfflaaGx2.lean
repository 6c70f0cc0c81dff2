/- Written by a program of this session for this seat: contracts of the functions that its laws reach, or the row of a law over its plain part. -/
import Derived.Test.YtljompndopfflaaGx0
namespace Go.Proofs.Ytljompndopfflaa.G
open Go.RowKit Go.Proofs.YtljompndopfflaaW.PrintWords Go.Proofs.YtljompndopfflaaW.PrintLast Go.Proofs.YtljompndopfflaaW.PrintMore
attribute [local go_sem] max2_int min2_int max_two min_two max_three min_three max_four min_four   -- for this text's walks alone
set_option linter.unusedVariables false
set_option linter.unusedSimpArgs false

/-! ### sizes_Add: function 9 -/
def sizes_Add.f (a0 : Int) (a1 : Int) (a2 : Int) : Option (Int × Bool) := if 0 ≤ a0 ∧ a0 < 18446744073709551616 ∧ 0 ≤ a1 ∧ a1 < 18446744073709551616 then (if a0 + a1 ≥ 18446744073709551616 then (some (0, false)) else (if a0 + a1 > a2 then (some (0, false)) else (some (a0 + a1, true)))) else (none)
set_option maxHeartbeats 8000000 in
theorem sizes_Add.calls (a0 : Int) (a1 : Int) (a2 : Int) (r1 : Int) (r2 : Bool) (w : World) (h : sizes_Add.f a0 a1 a2 = some (r1, r2)) :
    Calls Try.prog 9 #[.int .u64 a0, .int .u64 a1, .int .u64 a2] w fun e w' => e = .returned (.tuple #[.int .u64 r1, .bool r2]) ∧ Drawn0 w w' := by
  have hadd : ∀ W : World, (callFunc 15 #[.int .u64 a0, .int .u64 a1, .int .u64 0]).run Try.prog W = ((add64Entry #[.int .u64 a0, .int .u64 a1, .int .u64 0]).run Try.prog W).andThen fun v w' => .ok (.value v) w' := fun W =>
    run_callFunc_extern Try.func15 (by kernel_rfl) (by kernel_rfl) (by kernel_rfl) (e := add64Entry) (by kernel_rfl) _ W
  have H : (if 0 ≤ a0 ∧ a0 < 18446744073709551616 ∧ 0 ≤ a1 ∧ a1 < 18446744073709551616 then (if a0 + a1 ≥ 18446744073709551616 then (some (0, false)) else (if a0 + a1 > a2 then (some (0, false)) else (some (a0 + a1, true)))) else (none)) = some (r1, r2) := h
  clear h
  by_cases c0 : 0 ≤ a0 ∧ a0 < 18446744073709551616 ∧ 0 ≤ a1 ∧ a1 < 18446744073709551616
  · rw [if_pos c0] at H
    obtain ⟨p0, p1, p2, p3⟩ := c0
    have hadd' : ∀ W : World, (callFunc 15 #[.int .u64 a0, .int .u64 a1, .int .u64 0]).run Try.prog W = .ok (.value (.tuple #[.int .u64 ((a0 + a1) % 18446744073709551616), .int .u64 ((a0 + a1) / 18446744073709551616)])) W := fun W => by
      rw [hadd W, run_add64 a0 a1 0 p0 p2 (by omega) (by omega), Int.add_zero]; rfl
    clear hadd
    by_cases c1 : a0 + a1 ≥ 18446744073709551616
    · rw [if_pos c1] at H
      obtain ⟨q, hq⟩ : ∃ q, (a0 + a1) % 18446744073709551616 = q := ⟨_, rfl⟩
      obtain ⟨t, ht⟩ : ∃ t, (a0 + a1) / 18446744073709551616 = t := ⟨_, rfl⟩
      have ht1 : t ≠ 0 := by omega
      rw [hq, ht] at hadd'
      have b1 : (t == 0) = false := beq_eq_false_iff_ne.mpr ht1
      have b2 : (t != 0) = true := bne_iff_ne.mpr ht1
      clear hq ht c1 ht1 p0 p1 p2 p3
      simp only [Option.some.injEq, Prod.mk.injEq] at H
      obtain ⟨rfl, rfl⟩ := H
      go_enter Try.func9, Try.ntmps9
      go_wp2
      repeat (go_quiet (fail); try go_wp2)
      go_ret2
      exact ⟨by first | rfl | (simp; done) | (simp [*]; done), by repeat (first | exact Drawn0.refl _ | apply Drawn0.step)⟩
    · rw [if_neg c1] at H
      rw [show (a0 + a1) % 18446744073709551616 = a0 + a1 by omega, show (a0 + a1) / 18446744073709551616 = 0 by omega] at hadd'
      obtain ⟨q, hq⟩ : ∃ q, a0 + a1 = q := ⟨_, rfl⟩
      rw [hq] at hadd' H
      clear hq c1 p0 p1 p2 p3
      by_cases c2 : q > a2
      · rw [if_pos c2] at H
        have b2 : decide (a2 < q) = true := decide_eq_true c2
        clear c2
        simp only [Option.some.injEq, Prod.mk.injEq] at H
        obtain ⟨rfl, rfl⟩ := H
        go_enter Try.func9, Try.ntmps9
        go_wp2
        repeat (go_quiet (fail); try go_wp2)
        go_ret2
        exact ⟨by first | rfl | (simp; done) | (simp [*]; done), by repeat (first | exact Drawn0.refl _ | apply Drawn0.step)⟩
      · rw [if_neg c2] at H
        have b2 : decide (a2 < q) = false := decide_eq_false c2
        clear c2
        simp only [Option.some.injEq, Prod.mk.injEq] at H
        obtain ⟨rfl, rfl⟩ := H
        go_enter Try.func9, Try.ntmps9
        go_wp2
        repeat (go_quiet (fail); try go_wp2)
        go_ret2
        exact ⟨by first | rfl | (simp; done) | (simp [*]; done), by repeat (first | exact Drawn0.refl _ | apply Drawn0.step)⟩
  · rw [if_neg c0] at H
    cases H

end Go.Proofs.Ytljompndopfflaa.G
