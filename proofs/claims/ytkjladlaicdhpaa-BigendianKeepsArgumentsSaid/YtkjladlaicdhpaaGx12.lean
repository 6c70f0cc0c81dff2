/- Written by a program of this session for this seat: contracts of the functions that its laws reach, or the row of a law over its plain part. -/
import Derived.Test.YtkjladlaicdhpaaGx0
import Derived.Test.YtkjladlaicdhpaaGx9
namespace Go.Proofs.Ytkjladlaicdhpaa.G
open Go.RowKit Go.Proofs.YtkjladlaicdhpaaW.PrintWords Go.Proofs.YtkjladlaicdhpaaW.PrintLast Go.Proofs.YtkjladlaicdhpaaW.PrintMore
attribute [local go_sem] max2_int min2_int max_two min_two max_three min_three max_four min_four   -- for this text's walks alone
set_option linter.unusedVariables false
set_option linter.unusedSimpArgs false

/-! ### zoneinforef01_Fits: function 18 -/
def zoneinforef01_Fits.f (k : Nat) (a0 : Int) (a1 : Int) : Option (Bool) := if a1 = 8 then (some true) else ((zoneinforef01_half.f k a1).bind fun t173 => (if a0 ≥ (wrap64 (-(wrap64 (t173)))) then (some (decide (a0 < (wrap64 (t173))))) else (some false)))
theorem zoneinforef01_Fits.mono : ∀ a0 a1 k, LeO (zoneinforef01_Fits.f k a0 a1) (zoneinforef01_Fits.f (k + 1) a0 a1) := by
  intro a0 a1 k
  unfold zoneinforef01_Fits.f
  repeat' first
      | (with_reducible exact zoneinforef01_half.mono _ _)
      | (with_reducible exact LeO.refl _)
      | (with_reducible exact LeO.none _)
      | (with_reducible refine LeO.ite ?_ ?_)
      | (with_reducible refine LeO.bind ?_ (fun _ => ?_))
      | exact zoneinforef01_half.mono _ _
      | exact LeO.none _
      | refine LeO.ite ?_ ?_
      | refine LeO.bind ?_ (fun _ => ?_)
set_option maxHeartbeats 8000000 in
set_option maxRecDepth 100000 in
theorem zoneinforef01_Fits.calls (k : Nat) (a0 : Int) (a1 : Int) (r : Bool) (w : World) (h : zoneinforef01_Fits.f k a0 a1 = some r) :
    Calls Try.prog 18 #[.int .i64 a0, .int .i64 a1] w fun e w' => e = .returned (.bool r) ∧ Drawn0 w w' := by
  have H : (if a1 = 8 then (some true) else ((zoneinforef01_half.f k a1).bind fun t173 => (if a0 ≥ (wrap64 (-(wrap64 (t173)))) then (some (decide (a0 < (wrap64 (t173))))) else (some false)))) = some r := h
  clear h
  by_cases c3 : a1 = 8
  · rw [if_pos c3] at H
    have c3b0 : (a1 == 8) = true := beq_iff_eq.mpr c3
    have c3b1 : (a1 != 8) = false := bne_eq_false_iff_eq.mpr c3
    clear c3
    obtain rfl := Option.some.inj H
    go_enter Try.func18, Try.ntmps18
    go_wp2
    go_ret
    exact ⟨by first | rfl | (simp; done) | (simp [*]; done), by repeat (first | exact Drawn0.refl _ | apply Drawn0.step)⟩
  · rw [if_neg c3] at H
    have c3b0 : (a1 == 8) = false := beq_eq_false_iff_ne.mpr c3
    have c3b1 : (a1 != 8) = true := bne_iff_ne.mpr c3
    replace H := Option.bind_eq_some_iff.mp H
    obtain ⟨t173, A40, H⟩ := H
    replace H : (if a0 ≥ (wrap64 (-(wrap64 (t173)))) then (some (decide (a0 < (wrap64 (t173))))) else (some false)) = some r := H
    have A4 := Aside0.mk A40
    clear A40
    by_cases c5 : a0 ≥ (wrap64 (-(wrap64 (t173))))
    · rw [if_pos c5] at H
      have c5b0 : decide ((wrap64 (-(wrap64 (t173)))) ≤ a0) = true := decide_eq_true c5
      clear c5
      obtain rfl := Option.some.inj H
      go_enter Try.func18, Try.ntmps18
      go_wp2_with (first | ((with_reducible refine gate_callee (f := 19) rfl ?_); refine goesL_ (some 9) rfl rfl Try.func19 (by kernel_rfl) rfl #[.int .i64 a1] rfl (by (try simp only [List.map_toArray, List.map_cons, List.map_nil]); first | done | rfl | (simp only [List.length_drop, List.length_take]; rfl)) ?_; (with_reducible refine (zoneinforef01_half.calls k a1 t173 _ A4.out).mono ?_); rintro e w' ⟨rfl, ⟨nd, rfl⟩⟩; refine ⟨_, rfl, ?_⟩))
      go_ret
      exact ⟨by first | rfl | (simp; done) | (simp [*]; done), by repeat (first | exact Drawn0.refl _ | apply Drawn0.step)⟩
    · rw [if_neg c5] at H
      have c5b0 : decide ((wrap64 (-(wrap64 (t173)))) ≤ a0) = false := decide_eq_false c5
      clear c5
      obtain rfl := Option.some.inj H
      go_enter Try.func18, Try.ntmps18
      go_wp2_with (first | ((with_reducible refine gate_callee (f := 19) rfl ?_); refine goesL_ (some 9) rfl rfl Try.func19 (by kernel_rfl) rfl #[.int .i64 a1] rfl (by (try simp only [List.map_toArray, List.map_cons, List.map_nil]); first | done | rfl | (simp only [List.length_drop, List.length_take]; rfl)) ?_; (with_reducible refine (zoneinforef01_half.calls k a1 t173 _ A4.out).mono ?_); rintro e w' ⟨rfl, ⟨nd, rfl⟩⟩; refine ⟨_, rfl, ?_⟩))
      go_ret
      exact ⟨by first | rfl | (simp; done) | (simp [*]; done), by repeat (first | exact Drawn0.refl _ | apply Drawn0.step)⟩

end Go.Proofs.Ytkjladlaicdhpaa.G
