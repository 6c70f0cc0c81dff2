/- Written by a program of this session for this seat: contracts of the functions that its laws reach, or the row of a law over its plain part. -/
import Derived.Test.YtnmifmjlcmgoeaaDoorGx0
import Derived.Test.YtnmifmjlcmgoeaaDoorGx1
namespace Go.Proofs.YtnmifmjlcmgoeaaDoor.G
open Go.RowKit Go.Proofs.YtnmifmjlcmgoeaaDoorW.PrintWords Go.Proofs.YtnmifmjlcmgoeaaDoorW.PrintLast Go.Proofs.YtnmifmjlcmgoeaaDoorW.PrintMore
attribute [local go_sem] max2_int min2_int max_two min_two max_three min_three max_four min_four   -- for this text's walks alone
set_option linter.unusedVariables false
set_option linter.unusedSimpArgs false

/-! ### civil_Days: function 19 -/
def civil_Days.f (a0 : Int) (a1 : Int) (a2 : Int) : Option (Int) := if a1 ≤ 2 then ((civil_floor.f (wrap64 (a0 - 1)) 400).bind fun bt105 => (some (wrap64 ((wrap64 ((wrap64 ((wrap64 ((wrap64 ((wrap64 ((wrap64 ((wrap64 (bt105.1 * 146097)) + (wrap64 (bt105.2 * 365)))) + (wrap64 (Int.tdiv bt105.2 4)))) - (wrap64 (Int.tdiv bt105.2 100)))) + (wrap64 (Int.tdiv (wrap64 ((wrap64 (153 * (Int.tmod (wrap64 (a1 + 9)) 12))) + 2)) 5)))) + a2)) - 1)) - 719468)))) else ((civil_floor.f a0 400).bind fun bt107 => (some (wrap64 ((wrap64 ((wrap64 ((wrap64 ((wrap64 ((wrap64 ((wrap64 ((wrap64 (bt107.1 * 146097)) + (wrap64 (bt107.2 * 365)))) + (wrap64 (Int.tdiv bt107.2 4)))) - (wrap64 (Int.tdiv bt107.2 100)))) + (wrap64 (Int.tdiv (wrap64 ((wrap64 (153 * (Int.tmod (wrap64 (a1 + 9)) 12))) + 2)) 5)))) + a2)) - 1)) - 719468))))
set_option maxHeartbeats 8000000 in
set_option maxRecDepth 100000 in
theorem civil_Days.calls (a0 : Int) (a1 : Int) (a2 : Int) (r : Int) (w : World) (h : civil_Days.f a0 a1 a2 = some r) :
    Calls Tryd.prog 19 #[.int .i64 a0, .int .i64 a1, .int .i64 a2] w fun e w' => e = .returned (.int .i64 r) ∧ Drawn0 w w' := by
  have H : (if a1 ≤ 2 then ((civil_floor.f (wrap64 (a0 - 1)) 400).bind fun bt105 => (some (wrap64 ((wrap64 ((wrap64 ((wrap64 ((wrap64 ((wrap64 ((wrap64 ((wrap64 (bt105.1 * 146097)) + (wrap64 (bt105.2 * 365)))) + (wrap64 (Int.tdiv bt105.2 4)))) - (wrap64 (Int.tdiv bt105.2 100)))) + (wrap64 (Int.tdiv (wrap64 ((wrap64 (153 * (Int.tmod (wrap64 (a1 + 9)) 12))) + 2)) 5)))) + a2)) - 1)) - 719468)))) else ((civil_floor.f a0 400).bind fun bt107 => (some (wrap64 ((wrap64 ((wrap64 ((wrap64 ((wrap64 ((wrap64 ((wrap64 ((wrap64 (bt107.1 * 146097)) + (wrap64 (bt107.2 * 365)))) + (wrap64 (Int.tdiv bt107.2 4)))) - (wrap64 (Int.tdiv bt107.2 100)))) + (wrap64 (Int.tdiv (wrap64 ((wrap64 (153 * (Int.tmod (wrap64 (a1 + 9)) 12))) + 2)) 5)))) + a2)) - 1)) - 719468))))) = some r := h
  clear h
  by_cases c4 : a1 ≤ 2
  · rw [if_pos c4] at H
    have c4b0 : decide (a1 ≤ 2) = true := decide_eq_true c4
    clear c4
    replace H := Option.bind_eq_some_iff.mp H
    obtain ⟨⟨t105, t106⟩, A50, H⟩ := H
    replace H : (some (wrap64 ((wrap64 ((wrap64 ((wrap64 ((wrap64 ((wrap64 ((wrap64 ((wrap64 (t105 * 146097)) + (wrap64 (t106 * 365)))) + (wrap64 (Int.tdiv t106 4)))) - (wrap64 (Int.tdiv t106 100)))) + (wrap64 (Int.tdiv (wrap64 ((wrap64 (153 * (Int.tmod (wrap64 (a1 + 9)) 12))) + 2)) 5)))) + a2)) - 1)) - 719468))) = some r := H
    have A5 := Aside0.mk A50
    clear A50
    obtain rfl := Option.some.inj H
    go_enter Tryd.func19, Tryd.ntmps19
    go_wp2_with (first | ((with_reducible refine gate_callee (f := 23) rfl ?_); refine goesL_ (some 16) rfl rfl Tryd.func23 (by kernel_rfl) rfl #[.int .i64 (wrap64 (a0 - 1)), .int .i64 400] rfl (by (try simp only [List.map_toArray, List.map_cons, List.map_nil]); first | done | rfl | (simp only [List.length_drop, List.length_take]; rfl)) ?_; (with_reducible refine (civil_floor.calls (wrap64 (a0 - 1)) 400 t105 t106 _ A5.out).mono ?_); rintro e w' ⟨rfl, ⟨nd, rfl⟩⟩; refine ⟨_, rfl, ?_⟩))
    go_ret
    exact ⟨by first | rfl | (simp; done) | (simp [*]; done), by repeat (first | exact Drawn0.refl _ | apply Drawn0.step)⟩
  · rw [if_neg c4] at H
    have c4b0 : decide (a1 ≤ 2) = false := decide_eq_false c4
    clear c4
    replace H := Option.bind_eq_some_iff.mp H
    obtain ⟨⟨t107, t108⟩, A60, H⟩ := H
    replace H : (some (wrap64 ((wrap64 ((wrap64 ((wrap64 ((wrap64 ((wrap64 ((wrap64 ((wrap64 (t107 * 146097)) + (wrap64 (t108 * 365)))) + (wrap64 (Int.tdiv t108 4)))) - (wrap64 (Int.tdiv t108 100)))) + (wrap64 (Int.tdiv (wrap64 ((wrap64 (153 * (Int.tmod (wrap64 (a1 + 9)) 12))) + 2)) 5)))) + a2)) - 1)) - 719468))) = some r := H
    have A6 := Aside0.mk A60
    clear A60
    obtain rfl := Option.some.inj H
    go_enter Tryd.func19, Tryd.ntmps19
    go_wp2_with (first | ((with_reducible refine gate_callee (f := 23) rfl ?_); refine goesL_ (some 16) rfl rfl Tryd.func23 (by kernel_rfl) rfl #[.int .i64 a0, .int .i64 400] rfl (by (try simp only [List.map_toArray, List.map_cons, List.map_nil]); first | done | rfl | (simp only [List.length_drop, List.length_take]; rfl)) ?_; (with_reducible refine (civil_floor.calls a0 400 t107 t108 _ A6.out).mono ?_); rintro e w' ⟨rfl, ⟨nd, rfl⟩⟩; refine ⟨_, rfl, ?_⟩))
    go_ret
    exact ⟨by first | rfl | (simp; done) | (simp [*]; done), by repeat (first | exact Drawn0.refl _ | apply Drawn0.step)⟩

end Go.Proofs.YtnmifmjlcmgoeaaDoor.G
