/- Written by a program of this session for this seat: contracts of the functions that its laws reach, or the row of a law over its plain part. -/
import Derived.Test.YtmfffkmnddeajaaDoorGx0
namespace Go.Proofs.YtmfffkmnddeajaaDoor.G
open Go.RowKit Go.Proofs.YtmfffkmnddeajaaDoorW.PrintWords Go.Proofs.YtmfffkmnddeajaaDoorW.PrintLast Go.Proofs.YtmfffkmnddeajaaDoorW.PrintMore
attribute [local go_sem] max2_int min2_int max_two min_two max_three min_three max_four min_four   -- for this text's walks alone
set_option linter.unusedVariables false
set_option linter.unusedSimpArgs false

/-! ### datetime_Split: function 9 -/
def datetime_Split.f (a0 : Int) : Option (Int × Int) := if (Int.tmod a0 86400) < 0 then (some (wrap64 ((wrap64 (Int.tdiv a0 86400)) - 1), wrap64 ((Int.tmod a0 86400) + 86400))) else (some (wrap64 (Int.tdiv a0 86400), Int.tmod a0 86400))
set_option maxHeartbeats 8000000 in
set_option maxRecDepth 100000 in
theorem datetime_Split.calls (a0 : Int) (r1 : Int) (r2 : Int) (w : World) (h : datetime_Split.f a0 = some (r1, r2)) :
    Calls Tryd.prog 9 #[.int .i64 a0] w fun e w' => e = .returned (.tuple #[.int .i64 r1, .int .i64 r2]) ∧ Drawn0 w w' := by
  have H : (if (Int.tmod a0 86400) < 0 then (some (wrap64 ((wrap64 (Int.tdiv a0 86400)) - 1), wrap64 ((Int.tmod a0 86400) + 86400))) else (some (wrap64 (Int.tdiv a0 86400), Int.tmod a0 86400))) = some (r1, r2) := h
  clear h
  by_cases c2 : (Int.tmod a0 86400) < 0
  · rw [if_pos c2] at H
    have c2b0 : decide ((Int.tmod a0 86400) < 0) = true := decide_eq_true c2
    clear c2
    simp only [Option.some.injEq, Prod.mk.injEq] at H
    obtain ⟨rfl, rfl⟩ := H
    go_enter Tryd.func9, Tryd.ntmps9
    go_wp2
    go_ret2
    exact ⟨by first | rfl | (simp; done) | (simp [*]; done), by repeat (first | exact Drawn0.refl _ | apply Drawn0.step)⟩
  · rw [if_neg c2] at H
    have c2b0 : decide ((Int.tmod a0 86400) < 0) = false := decide_eq_false c2
    clear c2
    simp only [Option.some.injEq, Prod.mk.injEq] at H
    obtain ⟨rfl, rfl⟩ := H
    go_enter Tryd.func9, Tryd.ntmps9
    go_wp2
    go_ret2
    exact ⟨by first | rfl | (simp; done) | (simp [*]; done), by repeat (first | exact Drawn0.refl _ | apply Drawn0.step)⟩

/-! ### civil_floor: function 30 -/
def civil_floor.f (a0 : Int) (a1 : Int) : Option (Int × Int) := if a1 = 0 then (none) else (if (Int.tmod a0 a1) < 0 then (some (wrap64 ((wrap64 (Int.tdiv a0 a1)) - 1), wrap64 ((Int.tmod a0 a1) + a1))) else (some (wrap64 (Int.tdiv a0 a1), Int.tmod a0 a1)))
set_option maxHeartbeats 8000000 in
set_option maxRecDepth 100000 in
theorem civil_floor.calls (a0 : Int) (a1 : Int) (r1 : Int) (r2 : Int) (w : World) (h : civil_floor.f a0 a1 = some (r1, r2)) :
    Calls Tryd.prog 30 #[.int .i64 a0, .int .i64 a1] w fun e w' => e = .returned (.tuple #[.int .i64 r1, .int .i64 r2]) ∧ Drawn0 w w' := by
  have H : (if a1 = 0 then (none) else (if (Int.tmod a0 a1) < 0 then (some (wrap64 ((wrap64 (Int.tdiv a0 a1)) - 1), wrap64 ((Int.tmod a0 a1) + a1))) else (some (wrap64 (Int.tdiv a0 a1), Int.tmod a0 a1)))) = some (r1, r2) := h
  clear h
  by_cases c3 : a1 = 0
  · rw [if_pos c3] at H
    exact absurd H (by simp)
  · rw [if_neg c3] at H
    have c3b0 : (a1 == 0) = false := beq_eq_false_iff_ne.mpr c3
    have c3b1 : (a1 != 0) = true := bne_iff_ne.mpr c3
    by_cases c4 : (Int.tmod a0 a1) < 0
    · rw [if_pos c4] at H
      have c4b0 : decide ((Int.tmod a0 a1) < 0) = true := decide_eq_true c4
      clear c4
      simp only [Option.some.injEq, Prod.mk.injEq] at H
      obtain ⟨rfl, rfl⟩ := H
      go_enter Tryd.func30, Tryd.ntmps30
      go_wp2
      repeat (go_quiet (fail); try go_wp2)
      go_ret2
      exact ⟨by first | rfl | (simp; done) | (simp [*]; done), by repeat (first | exact Drawn0.refl _ | apply Drawn0.step)⟩
    · rw [if_neg c4] at H
      have c4b0 : decide ((Int.tmod a0 a1) < 0) = false := decide_eq_false c4
      clear c4
      simp only [Option.some.injEq, Prod.mk.injEq] at H
      obtain ⟨rfl, rfl⟩ := H
      go_enter Tryd.func30, Tryd.ntmps30
      go_wp2
      repeat (go_quiet (fail); try go_wp2)
      go_ret2
      exact ⟨by first | rfl | (simp; done) | (simp [*]; done), by repeat (first | exact Drawn0.refl _ | apply Drawn0.step)⟩

/-! ### civil_Date: function 21 -/
def civil_Date.f (a0 : Int) : Option (Int × Int × Int) := (civil_floor.f (wrap64 (a0 + 719468)) 146097).bind fun bt101 => (if (wrap64 ((wrap64 (Int.tdiv (wrap64 ((wrap64 (5 * (wrap64 (bt101.2 - (wrap64 ((wrap64 ((wrap64 ((wrap64 (Int.tdiv (wrap64 ((wrap64 ((wrap64 (bt101.2 - (wrap64 (Int.tdiv bt101.2 1460)))) + (wrap64 (Int.tdiv bt101.2 36524)))) - (wrap64 (Int.tdiv bt101.2 146096)))) 365)) * 365)) + (wrap64 (Int.tdiv (wrap64 (Int.tdiv (wrap64 ((wrap64 ((wrap64 (bt101.2 - (wrap64 (Int.tdiv bt101.2 1460)))) + (wrap64 (Int.tdiv bt101.2 36524)))) - (wrap64 (Int.tdiv bt101.2 146096)))) 365)) 4)))) - (wrap64 (Int.tdiv (wrap64 (Int.tdiv (wrap64 ((wrap64 ((wrap64 (bt101.2 - (wrap64 (Int.tdiv bt101.2 1460)))) + (wrap64 (Int.tdiv bt101.2 36524)))) - (wrap64 (Int.tdiv bt101.2 146096)))) 365)) 100)))))))) + 2)) 153)) + 3)) > 12 then (some (wrap64 ((wrap64 ((wrap64 (bt101.1 * 400)) + (wrap64 (Int.tdiv (wrap64 ((wrap64 ((wrap64 (bt101.2 - (wrap64 (Int.tdiv bt101.2 1460)))) + (wrap64 (Int.tdiv bt101.2 36524)))) - (wrap64 (Int.tdiv bt101.2 146096)))) 365)))) + 1), wrap64 ((wrap64 ((wrap64 (Int.tdiv (wrap64 ((wrap64 (5 * (wrap64 (bt101.2 - (wrap64 ((wrap64 ((wrap64 ((wrap64 (Int.tdiv (wrap64 ((wrap64 ((wrap64 (bt101.2 - (wrap64 (Int.tdiv bt101.2 1460)))) + (wrap64 (Int.tdiv bt101.2 36524)))) - (wrap64 (Int.tdiv bt101.2 146096)))) 365)) * 365)) + (wrap64 (Int.tdiv (wrap64 (Int.tdiv (wrap64 ((wrap64 ((wrap64 (bt101.2 - (wrap64 (Int.tdiv bt101.2 1460)))) + (wrap64 (Int.tdiv bt101.2 36524)))) - (wrap64 (Int.tdiv bt101.2 146096)))) 365)) 4)))) - (wrap64 (Int.tdiv (wrap64 (Int.tdiv (wrap64 ((wrap64 ((wrap64 (bt101.2 - (wrap64 (Int.tdiv bt101.2 1460)))) + (wrap64 (Int.tdiv bt101.2 36524)))) - (wrap64 (Int.tdiv bt101.2 146096)))) 365)) 100)))))))) + 2)) 153)) + 3)) - 12), wrap64 ((wrap64 ((wrap64 (bt101.2 - (wrap64 ((wrap64 ((wrap64 ((wrap64 (Int.tdiv (wrap64 ((wrap64 ((wrap64 (bt101.2 - (wrap64 (Int.tdiv bt101.2 1460)))) + (wrap64 (Int.tdiv bt101.2 36524)))) - (wrap64 (Int.tdiv bt101.2 146096)))) 365)) * 365)) + (wrap64 (Int.tdiv (wrap64 (Int.tdiv (wrap64 ((wrap64 ((wrap64 (bt101.2 - (wrap64 (Int.tdiv bt101.2 1460)))) + (wrap64 (Int.tdiv bt101.2 36524)))) - (wrap64 (Int.tdiv bt101.2 146096)))) 365)) 4)))) - (wrap64 (Int.tdiv (wrap64 (Int.tdiv (wrap64 ((wrap64 ((wrap64 (bt101.2 - (wrap64 (Int.tdiv bt101.2 1460)))) + (wrap64 (Int.tdiv bt101.2 36524)))) - (wrap64 (Int.tdiv bt101.2 146096)))) 365)) 100)))))) - (wrap64 (Int.tdiv (wrap64 ((wrap64 (153 * (wrap64 (Int.tdiv (wrap64 ((wrap64 (5 * (wrap64 (bt101.2 - (wrap64 ((wrap64 ((wrap64 ((wrap64 (Int.tdiv (wrap64 ((wrap64 ((wrap64 (bt101.2 - (wrap64 (Int.tdiv bt101.2 1460)))) + (wrap64 (Int.tdiv bt101.2 36524)))) - (wrap64 (Int.tdiv bt101.2 146096)))) 365)) * 365)) + (wrap64 (Int.tdiv (wrap64 (Int.tdiv (wrap64 ((wrap64 ((wrap64 (bt101.2 - (wrap64 (Int.tdiv bt101.2 1460)))) + (wrap64 (Int.tdiv bt101.2 36524)))) - (wrap64 (Int.tdiv bt101.2 146096)))) 365)) 4)))) - (wrap64 (Int.tdiv (wrap64 (Int.tdiv (wrap64 ((wrap64 ((wrap64 (bt101.2 - (wrap64 (Int.tdiv bt101.2 1460)))) + (wrap64 (Int.tdiv bt101.2 36524)))) - (wrap64 (Int.tdiv bt101.2 146096)))) 365)) 100)))))))) + 2)) 153)))) + 2)) 5)))) + 1))) else (some (wrap64 ((wrap64 (bt101.1 * 400)) + (wrap64 (Int.tdiv (wrap64 ((wrap64 ((wrap64 (bt101.2 - (wrap64 (Int.tdiv bt101.2 1460)))) + (wrap64 (Int.tdiv bt101.2 36524)))) - (wrap64 (Int.tdiv bt101.2 146096)))) 365))), wrap64 ((wrap64 (Int.tdiv (wrap64 ((wrap64 (5 * (wrap64 (bt101.2 - (wrap64 ((wrap64 ((wrap64 ((wrap64 (Int.tdiv (wrap64 ((wrap64 ((wrap64 (bt101.2 - (wrap64 (Int.tdiv bt101.2 1460)))) + (wrap64 (Int.tdiv bt101.2 36524)))) - (wrap64 (Int.tdiv bt101.2 146096)))) 365)) * 365)) + (wrap64 (Int.tdiv (wrap64 (Int.tdiv (wrap64 ((wrap64 ((wrap64 (bt101.2 - (wrap64 (Int.tdiv bt101.2 1460)))) + (wrap64 (Int.tdiv bt101.2 36524)))) - (wrap64 (Int.tdiv bt101.2 146096)))) 365)) 4)))) - (wrap64 (Int.tdiv (wrap64 (Int.tdiv (wrap64 ((wrap64 ((wrap64 (bt101.2 - (wrap64 (Int.tdiv bt101.2 1460)))) + (wrap64 (Int.tdiv bt101.2 36524)))) - (wrap64 (Int.tdiv bt101.2 146096)))) 365)) 100)))))))) + 2)) 153)) + 3), wrap64 ((wrap64 ((wrap64 (bt101.2 - (wrap64 ((wrap64 ((wrap64 ((wrap64 (Int.tdiv (wrap64 ((wrap64 ((wrap64 (bt101.2 - (wrap64 (Int.tdiv bt101.2 1460)))) + (wrap64 (Int.tdiv bt101.2 36524)))) - (wrap64 (Int.tdiv bt101.2 146096)))) 365)) * 365)) + (wrap64 (Int.tdiv (wrap64 (Int.tdiv (wrap64 ((wrap64 ((wrap64 (bt101.2 - (wrap64 (Int.tdiv bt101.2 1460)))) + (wrap64 (Int.tdiv bt101.2 36524)))) - (wrap64 (Int.tdiv bt101.2 146096)))) 365)) 4)))) - (wrap64 (Int.tdiv (wrap64 (Int.tdiv (wrap64 ((wrap64 ((wrap64 (bt101.2 - (wrap64 (Int.tdiv bt101.2 1460)))) + (wrap64 (Int.tdiv bt101.2 36524)))) - (wrap64 (Int.tdiv bt101.2 146096)))) 365)) 100)))))) - (wrap64 (Int.tdiv (wrap64 ((wrap64 (153 * (wrap64 (Int.tdiv (wrap64 ((wrap64 (5 * (wrap64 (bt101.2 - (wrap64 ((wrap64 ((wrap64 ((wrap64 (Int.tdiv (wrap64 ((wrap64 ((wrap64 (bt101.2 - (wrap64 (Int.tdiv bt101.2 1460)))) + (wrap64 (Int.tdiv bt101.2 36524)))) - (wrap64 (Int.tdiv bt101.2 146096)))) 365)) * 365)) + (wrap64 (Int.tdiv (wrap64 (Int.tdiv (wrap64 ((wrap64 ((wrap64 (bt101.2 - (wrap64 (Int.tdiv bt101.2 1460)))) + (wrap64 (Int.tdiv bt101.2 36524)))) - (wrap64 (Int.tdiv bt101.2 146096)))) 365)) 4)))) - (wrap64 (Int.tdiv (wrap64 (Int.tdiv (wrap64 ((wrap64 ((wrap64 (bt101.2 - (wrap64 (Int.tdiv bt101.2 1460)))) + (wrap64 (Int.tdiv bt101.2 36524)))) - (wrap64 (Int.tdiv bt101.2 146096)))) 365)) 100)))))))) + 2)) 153)))) + 2)) 5)))) + 1))))
set_option maxHeartbeats 8000000 in
set_option maxRecDepth 100000 in
theorem civil_Date.calls (a0 : Int) (r1 : Int) (r2 : Int) (r3 : Int) (w : World) (h : civil_Date.f a0 = some (r1, r2, r3)) :
    Calls Tryd.prog 21 #[.int .i64 a0] w fun e w' => e = .returned (.tuple #[.int .i64 r1, .int .i64 r2, .int .i64 r3]) ∧ Drawn0 w w' := by
  have H : ((civil_floor.f (wrap64 (a0 + 719468)) 146097).bind fun bt101 => (if (wrap64 ((wrap64 (Int.tdiv (wrap64 ((wrap64 (5 * (wrap64 (bt101.2 - (wrap64 ((wrap64 ((wrap64 ((wrap64 (Int.tdiv (wrap64 ((wrap64 ((wrap64 (bt101.2 - (wrap64 (Int.tdiv bt101.2 1460)))) + (wrap64 (Int.tdiv bt101.2 36524)))) - (wrap64 (Int.tdiv bt101.2 146096)))) 365)) * 365)) + (wrap64 (Int.tdiv (wrap64 (Int.tdiv (wrap64 ((wrap64 ((wrap64 (bt101.2 - (wrap64 (Int.tdiv bt101.2 1460)))) + (wrap64 (Int.tdiv bt101.2 36524)))) - (wrap64 (Int.tdiv bt101.2 146096)))) 365)) 4)))) - (wrap64 (Int.tdiv (wrap64 (Int.tdiv (wrap64 ((wrap64 ((wrap64 (bt101.2 - (wrap64 (Int.tdiv bt101.2 1460)))) + (wrap64 (Int.tdiv bt101.2 36524)))) - (wrap64 (Int.tdiv bt101.2 146096)))) 365)) 100)))))))) + 2)) 153)) + 3)) > 12 then (some (wrap64 ((wrap64 ((wrap64 (bt101.1 * 400)) + (wrap64 (Int.tdiv (wrap64 ((wrap64 ((wrap64 (bt101.2 - (wrap64 (Int.tdiv bt101.2 1460)))) + (wrap64 (Int.tdiv bt101.2 36524)))) - (wrap64 (Int.tdiv bt101.2 146096)))) 365)))) + 1), wrap64 ((wrap64 ((wrap64 (Int.tdiv (wrap64 ((wrap64 (5 * (wrap64 (bt101.2 - (wrap64 ((wrap64 ((wrap64 ((wrap64 (Int.tdiv (wrap64 ((wrap64 ((wrap64 (bt101.2 - (wrap64 (Int.tdiv bt101.2 1460)))) + (wrap64 (Int.tdiv bt101.2 36524)))) - (wrap64 (Int.tdiv bt101.2 146096)))) 365)) * 365)) + (wrap64 (Int.tdiv (wrap64 (Int.tdiv (wrap64 ((wrap64 ((wrap64 (bt101.2 - (wrap64 (Int.tdiv bt101.2 1460)))) + (wrap64 (Int.tdiv bt101.2 36524)))) - (wrap64 (Int.tdiv bt101.2 146096)))) 365)) 4)))) - (wrap64 (Int.tdiv (wrap64 (Int.tdiv (wrap64 ((wrap64 ((wrap64 (bt101.2 - (wrap64 (Int.tdiv bt101.2 1460)))) + (wrap64 (Int.tdiv bt101.2 36524)))) - (wrap64 (Int.tdiv bt101.2 146096)))) 365)) 100)))))))) + 2)) 153)) + 3)) - 12), wrap64 ((wrap64 ((wrap64 (bt101.2 - (wrap64 ((wrap64 ((wrap64 ((wrap64 (Int.tdiv (wrap64 ((wrap64 ((wrap64 (bt101.2 - (wrap64 (Int.tdiv bt101.2 1460)))) + (wrap64 (Int.tdiv bt101.2 36524)))) - (wrap64 (Int.tdiv bt101.2 146096)))) 365)) * 365)) + (wrap64 (Int.tdiv (wrap64 (Int.tdiv (wrap64 ((wrap64 ((wrap64 (bt101.2 - (wrap64 (Int.tdiv bt101.2 1460)))) + (wrap64 (Int.tdiv bt101.2 36524)))) - (wrap64 (Int.tdiv bt101.2 146096)))) 365)) 4)))) - (wrap64 (Int.tdiv (wrap64 (Int.tdiv (wrap64 ((wrap64 ((wrap64 (bt101.2 - (wrap64 (Int.tdiv bt101.2 1460)))) + (wrap64 (Int.tdiv bt101.2 36524)))) - (wrap64 (Int.tdiv bt101.2 146096)))) 365)) 100)))))) - (wrap64 (Int.tdiv (wrap64 ((wrap64 (153 * (wrap64 (Int.tdiv (wrap64 ((wrap64 (5 * (wrap64 (bt101.2 - (wrap64 ((wrap64 ((wrap64 ((wrap64 (Int.tdiv (wrap64 ((wrap64 ((wrap64 (bt101.2 - (wrap64 (Int.tdiv bt101.2 1460)))) + (wrap64 (Int.tdiv bt101.2 36524)))) - (wrap64 (Int.tdiv bt101.2 146096)))) 365)) * 365)) + (wrap64 (Int.tdiv (wrap64 (Int.tdiv (wrap64 ((wrap64 ((wrap64 (bt101.2 - (wrap64 (Int.tdiv bt101.2 1460)))) + (wrap64 (Int.tdiv bt101.2 36524)))) - (wrap64 (Int.tdiv bt101.2 146096)))) 365)) 4)))) - (wrap64 (Int.tdiv (wrap64 (Int.tdiv (wrap64 ((wrap64 ((wrap64 (bt101.2 - (wrap64 (Int.tdiv bt101.2 1460)))) + (wrap64 (Int.tdiv bt101.2 36524)))) - (wrap64 (Int.tdiv bt101.2 146096)))) 365)) 100)))))))) + 2)) 153)))) + 2)) 5)))) + 1))) else (some (wrap64 ((wrap64 (bt101.1 * 400)) + (wrap64 (Int.tdiv (wrap64 ((wrap64 ((wrap64 (bt101.2 - (wrap64 (Int.tdiv bt101.2 1460)))) + (wrap64 (Int.tdiv bt101.2 36524)))) - (wrap64 (Int.tdiv bt101.2 146096)))) 365))), wrap64 ((wrap64 (Int.tdiv (wrap64 ((wrap64 (5 * (wrap64 (bt101.2 - (wrap64 ((wrap64 ((wrap64 ((wrap64 (Int.tdiv (wrap64 ((wrap64 ((wrap64 (bt101.2 - (wrap64 (Int.tdiv bt101.2 1460)))) + (wrap64 (Int.tdiv bt101.2 36524)))) - (wrap64 (Int.tdiv bt101.2 146096)))) 365)) * 365)) + (wrap64 (Int.tdiv (wrap64 (Int.tdiv (wrap64 ((wrap64 ((wrap64 (bt101.2 - (wrap64 (Int.tdiv bt101.2 1460)))) + (wrap64 (Int.tdiv bt101.2 36524)))) - (wrap64 (Int.tdiv bt101.2 146096)))) 365)) 4)))) - (wrap64 (Int.tdiv (wrap64 (Int.tdiv (wrap64 ((wrap64 ((wrap64 (bt101.2 - (wrap64 (Int.tdiv bt101.2 1460)))) + (wrap64 (Int.tdiv bt101.2 36524)))) - (wrap64 (Int.tdiv bt101.2 146096)))) 365)) 100)))))))) + 2)) 153)) + 3), wrap64 ((wrap64 ((wrap64 (bt101.2 - (wrap64 ((wrap64 ((wrap64 ((wrap64 (Int.tdiv (wrap64 ((wrap64 ((wrap64 (bt101.2 - (wrap64 (Int.tdiv bt101.2 1460)))) + (wrap64 (Int.tdiv bt101.2 36524)))) - (wrap64 (Int.tdiv bt101.2 146096)))) 365)) * 365)) + (wrap64 (Int.tdiv (wrap64 (Int.tdiv (wrap64 ((wrap64 ((wrap64 (bt101.2 - (wrap64 (Int.tdiv bt101.2 1460)))) + (wrap64 (Int.tdiv bt101.2 36524)))) - (wrap64 (Int.tdiv bt101.2 146096)))) 365)) 4)))) - (wrap64 (Int.tdiv (wrap64 (Int.tdiv (wrap64 ((wrap64 ((wrap64 (bt101.2 - (wrap64 (Int.tdiv bt101.2 1460)))) + (wrap64 (Int.tdiv bt101.2 36524)))) - (wrap64 (Int.tdiv bt101.2 146096)))) 365)) 100)))))) - (wrap64 (Int.tdiv (wrap64 ((wrap64 (153 * (wrap64 (Int.tdiv (wrap64 ((wrap64 (5 * (wrap64 (bt101.2 - (wrap64 ((wrap64 ((wrap64 ((wrap64 (Int.tdiv (wrap64 ((wrap64 ((wrap64 (bt101.2 - (wrap64 (Int.tdiv bt101.2 1460)))) + (wrap64 (Int.tdiv bt101.2 36524)))) - (wrap64 (Int.tdiv bt101.2 146096)))) 365)) * 365)) + (wrap64 (Int.tdiv (wrap64 (Int.tdiv (wrap64 ((wrap64 ((wrap64 (bt101.2 - (wrap64 (Int.tdiv bt101.2 1460)))) + (wrap64 (Int.tdiv bt101.2 36524)))) - (wrap64 (Int.tdiv bt101.2 146096)))) 365)) 4)))) - (wrap64 (Int.tdiv (wrap64 (Int.tdiv (wrap64 ((wrap64 ((wrap64 (bt101.2 - (wrap64 (Int.tdiv bt101.2 1460)))) + (wrap64 (Int.tdiv bt101.2 36524)))) - (wrap64 (Int.tdiv bt101.2 146096)))) 365)) 100)))))))) + 2)) 153)))) + 2)) 5)))) + 1))))) = some (r1, r2, r3) := h
  clear h
  replace H := Option.bind_eq_some_iff.mp H
  obtain ⟨⟨t101, t102⟩, A20, H⟩ := H
  replace H : (if (wrap64 ((wrap64 (Int.tdiv (wrap64 ((wrap64 (5 * (wrap64 (t102 - (wrap64 ((wrap64 ((wrap64 ((wrap64 (Int.tdiv (wrap64 ((wrap64 ((wrap64 (t102 - (wrap64 (Int.tdiv t102 1460)))) + (wrap64 (Int.tdiv t102 36524)))) - (wrap64 (Int.tdiv t102 146096)))) 365)) * 365)) + (wrap64 (Int.tdiv (wrap64 (Int.tdiv (wrap64 ((wrap64 ((wrap64 (t102 - (wrap64 (Int.tdiv t102 1460)))) + (wrap64 (Int.tdiv t102 36524)))) - (wrap64 (Int.tdiv t102 146096)))) 365)) 4)))) - (wrap64 (Int.tdiv (wrap64 (Int.tdiv (wrap64 ((wrap64 ((wrap64 (t102 - (wrap64 (Int.tdiv t102 1460)))) + (wrap64 (Int.tdiv t102 36524)))) - (wrap64 (Int.tdiv t102 146096)))) 365)) 100)))))))) + 2)) 153)) + 3)) > 12 then (some (wrap64 ((wrap64 ((wrap64 (t101 * 400)) + (wrap64 (Int.tdiv (wrap64 ((wrap64 ((wrap64 (t102 - (wrap64 (Int.tdiv t102 1460)))) + (wrap64 (Int.tdiv t102 36524)))) - (wrap64 (Int.tdiv t102 146096)))) 365)))) + 1), wrap64 ((wrap64 ((wrap64 (Int.tdiv (wrap64 ((wrap64 (5 * (wrap64 (t102 - (wrap64 ((wrap64 ((wrap64 ((wrap64 (Int.tdiv (wrap64 ((wrap64 ((wrap64 (t102 - (wrap64 (Int.tdiv t102 1460)))) + (wrap64 (Int.tdiv t102 36524)))) - (wrap64 (Int.tdiv t102 146096)))) 365)) * 365)) + (wrap64 (Int.tdiv (wrap64 (Int.tdiv (wrap64 ((wrap64 ((wrap64 (t102 - (wrap64 (Int.tdiv t102 1460)))) + (wrap64 (Int.tdiv t102 36524)))) - (wrap64 (Int.tdiv t102 146096)))) 365)) 4)))) - (wrap64 (Int.tdiv (wrap64 (Int.tdiv (wrap64 ((wrap64 ((wrap64 (t102 - (wrap64 (Int.tdiv t102 1460)))) + (wrap64 (Int.tdiv t102 36524)))) - (wrap64 (Int.tdiv t102 146096)))) 365)) 100)))))))) + 2)) 153)) + 3)) - 12), wrap64 ((wrap64 ((wrap64 (t102 - (wrap64 ((wrap64 ((wrap64 ((wrap64 (Int.tdiv (wrap64 ((wrap64 ((wrap64 (t102 - (wrap64 (Int.tdiv t102 1460)))) + (wrap64 (Int.tdiv t102 36524)))) - (wrap64 (Int.tdiv t102 146096)))) 365)) * 365)) + (wrap64 (Int.tdiv (wrap64 (Int.tdiv (wrap64 ((wrap64 ((wrap64 (t102 - (wrap64 (Int.tdiv t102 1460)))) + (wrap64 (Int.tdiv t102 36524)))) - (wrap64 (Int.tdiv t102 146096)))) 365)) 4)))) - (wrap64 (Int.tdiv (wrap64 (Int.tdiv (wrap64 ((wrap64 ((wrap64 (t102 - (wrap64 (Int.tdiv t102 1460)))) + (wrap64 (Int.tdiv t102 36524)))) - (wrap64 (Int.tdiv t102 146096)))) 365)) 100)))))) - (wrap64 (Int.tdiv (wrap64 ((wrap64 (153 * (wrap64 (Int.tdiv (wrap64 ((wrap64 (5 * (wrap64 (t102 - (wrap64 ((wrap64 ((wrap64 ((wrap64 (Int.tdiv (wrap64 ((wrap64 ((wrap64 (t102 - (wrap64 (Int.tdiv t102 1460)))) + (wrap64 (Int.tdiv t102 36524)))) - (wrap64 (Int.tdiv t102 146096)))) 365)) * 365)) + (wrap64 (Int.tdiv (wrap64 (Int.tdiv (wrap64 ((wrap64 ((wrap64 (t102 - (wrap64 (Int.tdiv t102 1460)))) + (wrap64 (Int.tdiv t102 36524)))) - (wrap64 (Int.tdiv t102 146096)))) 365)) 4)))) - (wrap64 (Int.tdiv (wrap64 (Int.tdiv (wrap64 ((wrap64 ((wrap64 (t102 - (wrap64 (Int.tdiv t102 1460)))) + (wrap64 (Int.tdiv t102 36524)))) - (wrap64 (Int.tdiv t102 146096)))) 365)) 100)))))))) + 2)) 153)))) + 2)) 5)))) + 1))) else (some (wrap64 ((wrap64 (t101 * 400)) + (wrap64 (Int.tdiv (wrap64 ((wrap64 ((wrap64 (t102 - (wrap64 (Int.tdiv t102 1460)))) + (wrap64 (Int.tdiv t102 36524)))) - (wrap64 (Int.tdiv t102 146096)))) 365))), wrap64 ((wrap64 (Int.tdiv (wrap64 ((wrap64 (5 * (wrap64 (t102 - (wrap64 ((wrap64 ((wrap64 ((wrap64 (Int.tdiv (wrap64 ((wrap64 ((wrap64 (t102 - (wrap64 (Int.tdiv t102 1460)))) + (wrap64 (Int.tdiv t102 36524)))) - (wrap64 (Int.tdiv t102 146096)))) 365)) * 365)) + (wrap64 (Int.tdiv (wrap64 (Int.tdiv (wrap64 ((wrap64 ((wrap64 (t102 - (wrap64 (Int.tdiv t102 1460)))) + (wrap64 (Int.tdiv t102 36524)))) - (wrap64 (Int.tdiv t102 146096)))) 365)) 4)))) - (wrap64 (Int.tdiv (wrap64 (Int.tdiv (wrap64 ((wrap64 ((wrap64 (t102 - (wrap64 (Int.tdiv t102 1460)))) + (wrap64 (Int.tdiv t102 36524)))) - (wrap64 (Int.tdiv t102 146096)))) 365)) 100)))))))) + 2)) 153)) + 3), wrap64 ((wrap64 ((wrap64 (t102 - (wrap64 ((wrap64 ((wrap64 ((wrap64 (Int.tdiv (wrap64 ((wrap64 ((wrap64 (t102 - (wrap64 (Int.tdiv t102 1460)))) + (wrap64 (Int.tdiv t102 36524)))) - (wrap64 (Int.tdiv t102 146096)))) 365)) * 365)) + (wrap64 (Int.tdiv (wrap64 (Int.tdiv (wrap64 ((wrap64 ((wrap64 (t102 - (wrap64 (Int.tdiv t102 1460)))) + (wrap64 (Int.tdiv t102 36524)))) - (wrap64 (Int.tdiv t102 146096)))) 365)) 4)))) - (wrap64 (Int.tdiv (wrap64 (Int.tdiv (wrap64 ((wrap64 ((wrap64 (t102 - (wrap64 (Int.tdiv t102 1460)))) + (wrap64 (Int.tdiv t102 36524)))) - (wrap64 (Int.tdiv t102 146096)))) 365)) 100)))))) - (wrap64 (Int.tdiv (wrap64 ((wrap64 (153 * (wrap64 (Int.tdiv (wrap64 ((wrap64 (5 * (wrap64 (t102 - (wrap64 ((wrap64 ((wrap64 ((wrap64 (Int.tdiv (wrap64 ((wrap64 ((wrap64 (t102 - (wrap64 (Int.tdiv t102 1460)))) + (wrap64 (Int.tdiv t102 36524)))) - (wrap64 (Int.tdiv t102 146096)))) 365)) * 365)) + (wrap64 (Int.tdiv (wrap64 (Int.tdiv (wrap64 ((wrap64 ((wrap64 (t102 - (wrap64 (Int.tdiv t102 1460)))) + (wrap64 (Int.tdiv t102 36524)))) - (wrap64 (Int.tdiv t102 146096)))) 365)) 4)))) - (wrap64 (Int.tdiv (wrap64 (Int.tdiv (wrap64 ((wrap64 ((wrap64 (t102 - (wrap64 (Int.tdiv t102 1460)))) + (wrap64 (Int.tdiv t102 36524)))) - (wrap64 (Int.tdiv t102 146096)))) 365)) 100)))))))) + 2)) 153)))) + 2)) 5)))) + 1)))) = some (r1, r2, r3) := H
  have A2 := Aside0.mk A20
  clear A20
  by_cases c3 : (wrap64 ((wrap64 (Int.tdiv (wrap64 ((wrap64 (5 * (wrap64 (t102 - (wrap64 ((wrap64 ((wrap64 ((wrap64 (Int.tdiv (wrap64 ((wrap64 ((wrap64 (t102 - (wrap64 (Int.tdiv t102 1460)))) + (wrap64 (Int.tdiv t102 36524)))) - (wrap64 (Int.tdiv t102 146096)))) 365)) * 365)) + (wrap64 (Int.tdiv (wrap64 (Int.tdiv (wrap64 ((wrap64 ((wrap64 (t102 - (wrap64 (Int.tdiv t102 1460)))) + (wrap64 (Int.tdiv t102 36524)))) - (wrap64 (Int.tdiv t102 146096)))) 365)) 4)))) - (wrap64 (Int.tdiv (wrap64 (Int.tdiv (wrap64 ((wrap64 ((wrap64 (t102 - (wrap64 (Int.tdiv t102 1460)))) + (wrap64 (Int.tdiv t102 36524)))) - (wrap64 (Int.tdiv t102 146096)))) 365)) 100)))))))) + 2)) 153)) + 3)) > 12
  · rw [if_pos c3] at H
    have c3b0 : decide (12 < (wrap64 ((wrap64 (Int.tdiv (wrap64 ((wrap64 (5 * (wrap64 (t102 - (wrap64 ((wrap64 ((wrap64 ((wrap64 (Int.tdiv (wrap64 ((wrap64 ((wrap64 (t102 - (wrap64 (Int.tdiv t102 1460)))) + (wrap64 (Int.tdiv t102 36524)))) - (wrap64 (Int.tdiv t102 146096)))) 365)) * 365)) + (wrap64 (Int.tdiv (wrap64 (Int.tdiv (wrap64 ((wrap64 ((wrap64 (t102 - (wrap64 (Int.tdiv t102 1460)))) + (wrap64 (Int.tdiv t102 36524)))) - (wrap64 (Int.tdiv t102 146096)))) 365)) 4)))) - (wrap64 (Int.tdiv (wrap64 (Int.tdiv (wrap64 ((wrap64 ((wrap64 (t102 - (wrap64 (Int.tdiv t102 1460)))) + (wrap64 (Int.tdiv t102 36524)))) - (wrap64 (Int.tdiv t102 146096)))) 365)) 100)))))))) + 2)) 153)) + 3))) = true := decide_eq_true c3
    clear c3
    simp only [Option.some.injEq, Prod.mk.injEq] at H
    obtain ⟨rfl, rfl, rfl⟩ := H
    go_enter Tryd.func21, Tryd.ntmps21
    go_wp2_with (first | ((with_reducible refine gate_callee (f := 30) rfl ?_); refine goesL_ (some 15) rfl rfl Tryd.func30 (by kernel_rfl) rfl #[.int .i64 (wrap64 (a0 + 719468)), .int .i64 146097] rfl (by (try simp only [List.map_toArray, List.map_cons, List.map_nil]); first | done | rfl | (simp only [List.length_drop, List.length_take]; rfl)) ?_; (with_reducible refine (civil_floor.calls (wrap64 (a0 + 719468)) 146097 t101 t102 _ A2.out).mono ?_); rintro e w' ⟨rfl, ⟨nd, rfl⟩⟩; refine ⟨_, rfl, ?_⟩))
    go_ret3
    exact ⟨by first | rfl | (simp; done) | (simp [*]; done), by repeat (first | exact Drawn0.refl _ | apply Drawn0.step)⟩
  · rw [if_neg c3] at H
    have c3b0 : decide (12 < (wrap64 ((wrap64 (Int.tdiv (wrap64 ((wrap64 (5 * (wrap64 (t102 - (wrap64 ((wrap64 ((wrap64 ((wrap64 (Int.tdiv (wrap64 ((wrap64 ((wrap64 (t102 - (wrap64 (Int.tdiv t102 1460)))) + (wrap64 (Int.tdiv t102 36524)))) - (wrap64 (Int.tdiv t102 146096)))) 365)) * 365)) + (wrap64 (Int.tdiv (wrap64 (Int.tdiv (wrap64 ((wrap64 ((wrap64 (t102 - (wrap64 (Int.tdiv t102 1460)))) + (wrap64 (Int.tdiv t102 36524)))) - (wrap64 (Int.tdiv t102 146096)))) 365)) 4)))) - (wrap64 (Int.tdiv (wrap64 (Int.tdiv (wrap64 ((wrap64 ((wrap64 (t102 - (wrap64 (Int.tdiv t102 1460)))) + (wrap64 (Int.tdiv t102 36524)))) - (wrap64 (Int.tdiv t102 146096)))) 365)) 100)))))))) + 2)) 153)) + 3))) = false := decide_eq_false c3
    clear c3
    simp only [Option.some.injEq, Prod.mk.injEq] at H
    obtain ⟨rfl, rfl, rfl⟩ := H
    go_enter Tryd.func21, Tryd.ntmps21
    go_wp2_with (first | ((with_reducible refine gate_callee (f := 30) rfl ?_); refine goesL_ (some 15) rfl rfl Tryd.func30 (by kernel_rfl) rfl #[.int .i64 (wrap64 (a0 + 719468)), .int .i64 146097] rfl (by (try simp only [List.map_toArray, List.map_cons, List.map_nil]); first | done | rfl | (simp only [List.length_drop, List.length_take]; rfl)) ?_; (with_reducible refine (civil_floor.calls (wrap64 (a0 + 719468)) 146097 t101 t102 _ A2.out).mono ?_); rintro e w' ⟨rfl, ⟨nd, rfl⟩⟩; refine ⟨_, rfl, ?_⟩))
    go_ret3
    exact ⟨by first | rfl | (simp; done) | (simp [*]; done), by repeat (first | exact Drawn0.refl _ | apply Drawn0.step)⟩

/-! ### civil_Weekday: function 22 -/
def civil_Weekday.f (a0 : Int) : Option (Int) := (civil_floor.f (wrap64 (a0 + 4)) 7).bind fun bt103 => (some bt103.2)
set_option maxHeartbeats 8000000 in
set_option maxRecDepth 100000 in
theorem civil_Weekday.calls (a0 : Int) (r : Int) (w : World) (h : civil_Weekday.f a0 = some r) :
    Calls Tryd.prog 22 #[.int .i64 a0] w fun e w' => e = .returned (.int .i64 r) ∧ Drawn0 w w' := by
  have H : ((civil_floor.f (wrap64 (a0 + 4)) 7).bind fun bt103 => (some bt103.2)) = some r := h
  clear h
  replace H := Option.bind_eq_some_iff.mp H
  obtain ⟨⟨t103, t104⟩, A20, H⟩ := H
  replace H : (some t104) = some r := H
  have A2 := Aside0.mk A20
  clear A20
  obtain rfl := Option.some.inj H
  go_enter Tryd.func22, Tryd.ntmps22
  go_wp2_with (first | ((with_reducible refine gate_callee (f := 30) rfl ?_); refine goesL_ (some 8) rfl rfl Tryd.func30 (by kernel_rfl) rfl #[.int .i64 (wrap64 (a0 + 4)), .int .i64 7] rfl (by (try simp only [List.map_toArray, List.map_cons, List.map_nil]); first | done | rfl | (simp only [List.length_drop, List.length_take]; rfl)) ?_; (with_reducible refine (civil_floor.calls (wrap64 (a0 + 4)) 7 t103 t104 _ A2.out).mono ?_); rintro e w' ⟨rfl, ⟨nd, rfl⟩⟩; refine ⟨_, rfl, ?_⟩))
  go_ret
  exact ⟨by first | rfl | (simp; done) | (simp [*]; done), by repeat (first | exact Drawn0.refl _ | apply Drawn0.step)⟩

/-! ### datetime_Of: function 13 -/
def datetime_Of.f (a0 : Int) : Option (Int × Int × Int × Int × Int × Int × Int) := (datetime_Split.f a0).bind fun bt106 => ((civil_Date.f bt106.1).bind fun bt108 => ((civil_Weekday.f bt106.1).bind fun t111 => (some (bt108.1, bt108.2.1, bt108.2.2, wrap64 (Int.tdiv bt106.2 3600), Int.tmod (wrap64 (Int.tdiv bt106.2 60)) 60, Int.tmod bt106.2 60, t111))))
set_option maxHeartbeats 8000000 in
set_option maxRecDepth 100000 in
theorem datetime_Of.calls (a0 : Int) (r1 : Int) (r2 : Int) (r3 : Int) (r4 : Int) (r5 : Int) (r6 : Int) (r7 : Int) (w : World) (h : datetime_Of.f a0 = some (r1, r2, r3, r4, r5, r6, r7)) :
    Calls Tryd.prog 13 #[.int .i64 a0] w fun e w' => e = .returned (.agg #[.int .i64 r1, .int .i64 r2, .int .i64 r3, .int .i64 r4, .int .i64 r5, .int .i64 r6, .int .i64 r7]) ∧ Below w.heap.size w w' := by
  have hu23 := Tryd.underlying23
  have HB := Aside0.mk (Below.refl w.heap.size w)
  have H : ((datetime_Split.f a0).bind fun bt106 => ((civil_Date.f bt106.1).bind fun bt108 => ((civil_Weekday.f bt106.1).bind fun t111 => (some (bt108.1, bt108.2.1, bt108.2.2, wrap64 (Int.tdiv bt106.2 3600), Int.tmod (wrap64 (Int.tdiv bt106.2 60)) 60, Int.tmod bt106.2 60, t111))))) = some (r1, r2, r3, r4, r5, r6, r7) := h
  clear h
  replace H := Option.bind_eq_some_iff.mp H
  obtain ⟨⟨t106, t107⟩, A20, H⟩ := H
  replace H : ((civil_Date.f t106).bind fun bt108 => ((civil_Weekday.f t106).bind fun t111 => (some (bt108.1, bt108.2.1, bt108.2.2, wrap64 (Int.tdiv t107 3600), Int.tmod (wrap64 (Int.tdiv t107 60)) 60, Int.tmod t107 60, t111)))) = some (r1, r2, r3, r4, r5, r6, r7) := H
  have A2 := Aside0.mk A20
  clear A20
  replace H := Option.bind_eq_some_iff.mp H
  obtain ⟨⟨t108, t109, t110⟩, A30, H⟩ := H
  replace H : ((civil_Weekday.f t106).bind fun t111 => (some (t108, t109, t110, wrap64 (Int.tdiv t107 3600), Int.tmod (wrap64 (Int.tdiv t107 60)) 60, Int.tmod t107 60, t111))) = some (r1, r2, r3, r4, r5, r6, r7) := H
  have A3 := Aside0.mk A30
  clear A30
  replace H := Option.bind_eq_some_iff.mp H
  obtain ⟨t111, A40, H⟩ := H
  replace H : (some (t108, t109, t110, wrap64 (Int.tdiv t107 3600), Int.tmod (wrap64 (Int.tdiv t107 60)) 60, Int.tmod t107 60, t111)) = some (r1, r2, r3, r4, r5, r6, r7) := H
  have A4 := Aside0.mk A40
  clear A40
  simp only [Option.some.injEq, Prod.mk.injEq] at H
  obtain ⟨rfl, rfl, rfl, rfl, rfl, rfl, rfl⟩ := H
  go_enter Tryd.func13, Tryd.ntmps13
  go_wp2_with (first | ((with_reducible refine gate_dst (N := 2) rfl ?_); refine box_event ?hg (N := 2) ?hd (cs := #[.int .i64 0, .int .i64 0, .int .i64 0, .int .i64 0, .int .i64 0, .int .i64 0, .int .i64 0]) (t := 23) ?hr ?_; (case hd => rfl); (case hg => rfl); (case hr => first | (go_simp; done) | (go_simp; rfl)); intro gb105 hg w5 hbox hb; have n0_ := Aside0.mk (below_step (by repeat (first | (with_reducible first | exact HB.out | apply below_alloc | apply pw_below_drewN | apply below_drew1) | exact HB.out)) hb); have n1_ := Aside0.mk (hbox); have n2_ := Aside0.mk ((by rw [hg]; exact (below_size (by repeat (first | (with_reducible first | exact HB.out | apply below_alloc | apply pw_below_drewN | apply below_drew1) | exact HB.out))) : w.heap.size ≤ gb105)); have n3_ := Aside0.mk ((by rw [hg]; exact (below_size (by repeat (first | (with_reducible first | exact HB.out | apply below_alloc | apply pw_below_drewN | apply below_drew1) | exact HB.out))) : w.heap.size ≤ gb105)); clear HB; have HB := n0_; have BK105 := n1_; have GW105 := n2_; have GE105 := n3_; clear n0_ n1_ n2_ n3_; clear hb hbox hg) | ((with_reducible refine gate_callee (f := 9) rfl ?_); refine goesL_ (some 10) rfl rfl Tryd.func9 (by kernel_rfl) rfl #[.int .i64 a0] rfl (by (try simp only [List.map_toArray, List.map_cons, List.map_nil]); first | done | rfl | (simp only [List.length_drop, List.length_take]; rfl)) ?_; (with_reducible refine (datetime_Split.calls a0 t106 t107 _ A2.out).mono ?_); rintro e w' ⟨rfl, ⟨nd, rfl⟩⟩; refine ⟨_, rfl, ?_⟩; (try (rw [drewN_self w5]; generalize hq_ : World.drewN w5 _ = w5; have n0_ : Aside0 (w5.heap[gb105]? = some (.cells #[.int .i64 0, .int .i64 0, .int .i64 0, .int .i64 0, .int .i64 0, .int .i64 0, .int .i64 0] 23 (0, 0))) := ⟨by rw [← hq_]; exact (by (with_reducible repeat (first | refine blk_drewN ?_ _ | refine blk_drew ?_ | refine blk_alloc ?_ _)); exact BK105.out)⟩; have n1_ : Aside0 (Below w.heap.size w w5) := ⟨by rw [← hq_]; exact (by repeat (first | (with_reducible first | exact HB.out | apply below_alloc | apply pw_below_drewN | apply below_drew1 | refine below_set ?_ GE105.out) | exact HB.out))⟩; clear BK105 HB hq_; have BK105 := n0_; have HB := n1_; clear n0_ n1_))) | ((with_reducible refine gate_callee (f := 21) rfl ?_); refine goesL_ (some 15) rfl rfl Tryd.func21 (by kernel_rfl) rfl #[.int .i64 t106] rfl (by (try simp only [List.map_toArray, List.map_cons, List.map_nil]); first | done | rfl | (simp only [List.length_drop, List.length_take]; rfl)) ?_; (with_reducible refine (civil_Date.calls t106 t108 t109 t110 _ A3.out).mono ?_); rintro e w' ⟨rfl, ⟨nd, rfl⟩⟩; refine ⟨_, rfl, ?_⟩; (try (rw [drewN_self w5]; generalize hq_ : World.drewN w5 _ = w5; have n0_ : Aside0 (w5.heap[gb105]? = some (.cells #[.int .i64 0, .int .i64 0, .int .i64 0, .int .i64 0, .int .i64 0, .int .i64 0, .int .i64 0] 23 (0, 0))) := ⟨by rw [← hq_]; exact (by (with_reducible repeat (first | refine blk_drewN ?_ _ | refine blk_drew ?_ | refine blk_alloc ?_ _)); exact BK105.out)⟩; have n1_ : Aside0 (Below w.heap.size w w5) := ⟨by rw [← hq_]; exact (by repeat (first | (with_reducible first | exact HB.out | apply below_alloc | apply pw_below_drewN | apply below_drew1 | refine below_set ?_ GE105.out) | exact HB.out))⟩; clear BK105 HB hq_; have BK105 := n0_; have HB := n1_; clear n0_ n1_))) | ((with_reducible refine gate_callee (f := 22) rfl ?_); refine goesL_ (some 30) rfl rfl Tryd.func22 (by kernel_rfl) rfl #[.int .i64 t106] rfl (by (try simp only [List.map_toArray, List.map_cons, List.map_nil]); first | done | rfl | (simp only [List.length_drop, List.length_take]; rfl)) ?_; (with_reducible refine (civil_Weekday.calls t106 t111 _ A4.out).mono ?_); rintro e w' ⟨rfl, ⟨nd, rfl⟩⟩; refine ⟨_, rfl, ?_⟩; (try (rw [drewN_self w5]; generalize hq_ : World.drewN w5 _ = w5; have n0_ : Aside0 (w5.heap[gb105]? = some (.cells #[.int .i64 0, .int .i64 0, .int .i64 0, .int .i64 0, .int .i64 0, .int .i64 0, .int .i64 0] 23 (0, 0))) := ⟨by rw [← hq_]; exact (by (with_reducible repeat (first | refine blk_drewN ?_ _ | refine blk_drew ?_ | refine blk_alloc ?_ _)); exact BK105.out)⟩; have n1_ : Aside0 (Below w.heap.size w w5) := ⟨by rw [← hq_]; exact (by repeat (first | (with_reducible first | exact HB.out | apply below_alloc | apply pw_below_drewN | apply below_drew1 | refine below_set ?_ GE105.out) | exact HB.out))⟩; clear BK105 HB hq_; have BK105 := n0_; have HB := n1_; clear n0_ n1_)); have hcz6_0 : w5.cell? ⟨gb105, 0, none⟩ = some (.int .i64 0) := (blk_cell BK105.out 0).trans rfl; have hcz6_1 : w5.cell? ⟨gb105, 1, none⟩ = some (.int .i64 0) := (blk_cell BK105.out 1).trans rfl; have hcz6_2 : w5.cell? ⟨gb105, 2, none⟩ = some (.int .i64 0) := (blk_cell BK105.out 2).trans rfl; have hcz6_3 : w5.cell? ⟨gb105, 3, none⟩ = some (.int .i64 0) := (blk_cell BK105.out 3).trans rfl; have hcz6_4 : w5.cell? ⟨gb105, 4, none⟩ = some (.int .i64 0) := (blk_cell BK105.out 4).trans rfl; have hcz6_5 : w5.cell? ⟨gb105, 5, none⟩ = some (.int .i64 0) := (blk_cell BK105.out 5).trans rfl; have hcz6_6 : w5.cell? ⟨gb105, 6, none⟩ = some (.int .i64 0) := (blk_cell BK105.out 6).trans rfl; have hfz6_0 := blk_frozen BK105.out 0; have hfz6_1 := blk_frozen BK105.out 1; have hfz6_2 := blk_frozen BK105.out 2; have hfz6_3 := blk_frozen BK105.out 3; have hfz6_4 := blk_frozen BK105.out 4; have hfz6_5 := blk_frozen BK105.out 5; have hfz6_6 := blk_frozen BK105.out 6))
  refine bodyPost_ret (results_cell_row rfl _ _ gb105 23 #[.int .i64 t108, .int .i64 t109, .int .i64 t110, .int .i64 (wrap64 (Int.tdiv t107 3600)), .int .i64 (Int.tmod (wrap64 (Int.tdiv t107 60)) 60), .int .i64 (Int.tmod t107 60), .int .i64 t111] (0, 0) _ rfl (by (with_reducible repeat (first | refine blk_drewN ?_ _ | refine blk_drew ?_ | refine blk_alloc ?_ _)); refine blk_put (cs := #[.int .i64 t108, .int .i64 t109, .int .i64 t110, .int .i64 (wrap64 (Int.tdiv t107 3600)), .int .i64 (Int.tmod (wrap64 (Int.tdiv t107 60)) 60), .int .i64 (Int.tmod t107 60), .int .i64 0]) ?_ 6 _ rfl; (with_reducible repeat (first | refine blk_drewN ?_ _ | refine blk_drew ?_ | refine blk_alloc ?_ _)); refine blk_put (cs := #[.int .i64 t108, .int .i64 t109, .int .i64 t110, .int .i64 (wrap64 (Int.tdiv t107 3600)), .int .i64 (Int.tmod (wrap64 (Int.tdiv t107 60)) 60), .int .i64 0, .int .i64 0]) ?_ 5 _ rfl; (with_reducible repeat (first | refine blk_drewN ?_ _ | refine blk_drew ?_ | refine blk_alloc ?_ _)); refine blk_put (cs := #[.int .i64 t108, .int .i64 t109, .int .i64 t110, .int .i64 (wrap64 (Int.tdiv t107 3600)), .int .i64 0, .int .i64 0, .int .i64 0]) ?_ 4 _ rfl; (with_reducible repeat (first | refine blk_drewN ?_ _ | refine blk_drew ?_ | refine blk_alloc ?_ _)); refine blk_put (cs := #[.int .i64 t108, .int .i64 t109, .int .i64 t110, .int .i64 0, .int .i64 0, .int .i64 0, .int .i64 0]) ?_ 3 _ rfl; (with_reducible repeat (first | refine blk_drewN ?_ _ | refine blk_drew ?_ | refine blk_alloc ?_ _)); refine blk_put (cs := #[.int .i64 t108, .int .i64 t109, .int .i64 0, .int .i64 0, .int .i64 0, .int .i64 0, .int .i64 0]) ?_ 2 _ rfl; (with_reducible repeat (first | refine blk_drewN ?_ _ | refine blk_drew ?_ | refine blk_alloc ?_ _)); refine blk_put (cs := #[.int .i64 t108, .int .i64 0, .int .i64 0, .int .i64 0, .int .i64 0, .int .i64 0, .int .i64 0]) ?_ 1 _ rfl; (with_reducible repeat (first | refine blk_drewN ?_ _ | refine blk_drew ?_ | refine blk_alloc ?_ _)); refine blk_put (cs := #[.int .i64 0, .int .i64 0, .int .i64 0, .int .i64 0, .int .i64 0, .int .i64 0, .int .i64 0]) ?_ 0 _ rfl; (with_reducible repeat (first | refine blk_drewN ?_ _ | refine blk_drew ?_ | refine blk_alloc ?_ _)); exact BK105.out) Tryd.underlying23 rfl (by kernel_rfl)) rfl ?_
  exact ⟨by first | rfl | (simp [errW_none, errW_some] <;> rfl) | (simp [*, errW_none, errW_some] <;> rfl), by repeat (first | (with_reducible first | exact HB.out | apply below_alloc | apply pw_below_drewN | apply below_drew1 | refine below_set ?_ GE105.out) | exact HB.out)⟩

/-! ### civil_IsLeap: function 29 -/
def civil_IsLeap.f (a0 : Int) : Option (Bool) := if (Int.tmod a0 4) = 0 then (if (Int.tmod a0 100) = 0 then (some ((Int.tmod a0 400) == 0)) else (some true)) else (some false)
set_option maxHeartbeats 8000000 in
set_option maxRecDepth 100000 in
theorem civil_IsLeap.calls (a0 : Int) (r : Bool) (w : World) (h : civil_IsLeap.f a0 = some r) :
    Calls Tryd.prog 29 #[.int .i64 a0] w fun e w' => e = .returned (.bool r) ∧ Drawn0 w w' := by
  have H : (if (Int.tmod a0 4) = 0 then (if (Int.tmod a0 100) = 0 then (some ((Int.tmod a0 400) == 0)) else (some true)) else (some false)) = some r := h
  clear h
  by_cases c2 : (Int.tmod a0 4) = 0
  · rw [if_pos c2] at H
    have c2b0 : ((Int.tmod a0 4) == 0) = true := beq_iff_eq.mpr c2
    have c2b1 : ((Int.tmod a0 4) != 0) = false := bne_eq_false_iff_eq.mpr c2
    clear c2
    by_cases c3 : (Int.tmod a0 100) = 0
    · rw [if_pos c3] at H
      have c3b0 : ((Int.tmod a0 100) == 0) = true := beq_iff_eq.mpr c3
      have c3b1 : ((Int.tmod a0 100) != 0) = false := bne_eq_false_iff_eq.mpr c3
      clear c3
      obtain rfl := Option.some.inj H
      go_enter Tryd.func29, Tryd.ntmps29
      go_wp2
      go_ret
      exact ⟨by first | rfl | (simp; done) | (simp [*]; done), by repeat (first | exact Drawn0.refl _ | apply Drawn0.step)⟩
    · rw [if_neg c3] at H
      have c3b0 : ((Int.tmod a0 100) == 0) = false := beq_eq_false_iff_ne.mpr c3
      have c3b1 : ((Int.tmod a0 100) != 0) = true := bne_iff_ne.mpr c3
      obtain rfl := Option.some.inj H
      go_enter Tryd.func29, Tryd.ntmps29
      go_wp2
      go_ret
      exact ⟨by first | rfl | (simp; done) | (simp [*]; done), by repeat (first | exact Drawn0.refl _ | apply Drawn0.step)⟩
  · rw [if_neg c2] at H
    have c2b0 : ((Int.tmod a0 4) == 0) = false := beq_eq_false_iff_ne.mpr c2
    have c2b1 : ((Int.tmod a0 4) != 0) = true := bne_iff_ne.mpr c2
    obtain rfl := Option.some.inj H
    go_enter Tryd.func29, Tryd.ntmps29
    go_wp2
    go_ret
    exact ⟨by first | rfl | (simp; done) | (simp [*]; done), by repeat (first | exact Drawn0.refl _ | apply Drawn0.step)⟩

/-! ### civil_MonthDays: function 19 -/
def glens : List Int := [0, 31, 28, 31, 30, 31, 30, 31, 31, 30, 31, 30, 31]
abbrev GL (w : World) : Prop := Kd.C (Kd.int .i64) w (some ⟨0, 0, none⟩) glens.length glens
def civil_MonthDays.f (a0 : Int) (a1 : Int) : Option (Int) := if a1 = 2 then ((civil_IsLeap.f a0).bind fun t => (if t = true then (some 29) else (some 28))) else (if 0 ≤ a1 then (if a1 < 13 then (some (rd glens a1)) else (none)) else (none))
set_option maxHeartbeats 8000000 in
set_option maxRecDepth 100000 in
theorem civil_MonthDays.calls (a0 : Int) (a1 : Int) (r : Int) (w : World) (hrg : GL w) (h : civil_MonthDays.f a0 a1 = some r) :
    Calls Tryd.prog 19 #[.int .i64 a0, .int .i64 a1] w fun e w' => e = .returned (.int .i64 r) ∧ Drawn0 w w' := by
  have HRg := Aside0.mk hrg
  clear hrg
  have H : (if a1 = 2 then ((civil_IsLeap.f a0).bind fun t => (if t = true then (some 29) else (some 28))) else (if 0 ≤ a1 then (if a1 < 13 then (some (rd glens a1)) else (none)) else (none))) = some r := h
  clear h
  by_cases c1 : a1 = 2
  · rw [if_pos c1] at H
    subst c1
    replace H := Option.bind_eq_some_iff.mp H
    obtain ⟨t, A0, H⟩ := H
    have A1 := Aside0.mk A0
    clear A0
    obtain ⟨ad, e1, hx⟩ := Kd.at_int HRg.out 2 (by decide) (by decide)
    cases e1
    replace hx : w.cell? ⟨0, 2, none⟩ = some (.int .i64 28) := hx
    cases t with
    | true =>
      rw [if_pos rfl] at H
      obtain rfl := Option.some.inj H
      go_enter Tryd.func19, Tryd.ntmps19
      go_wp2_with (first | (go_at_call 29; (with_reducible refine (civil_IsLeap.calls a0 true _ A1.out).mono ?_); rintro e w' ⟨rfl, ⟨nd, rfl⟩⟩))
      repeat (go_quiet (fail); try go_wp2)
      go_ret
      exact ⟨by first | rfl | (simp; done) | (simp [*]; done), by repeat (first | exact Drawn0.refl _ | apply Drawn0.step)⟩
    | false =>
      rw [if_neg (by decide)] at H
      obtain rfl := Option.some.inj H
      go_enter Tryd.func19, Tryd.ntmps19
      go_wp2_with (first | (go_at_call 29; (with_reducible refine (civil_IsLeap.calls a0 false _ A1.out).mono ?_); rintro e w' ⟨rfl, ⟨nd, rfl⟩⟩))
      repeat (go_quiet (fail); try go_wp2)
      go_ret
      exact ⟨by first | rfl | (simp; done) | (simp [*]; done), by repeat (first | exact Drawn0.refl _ | apply Drawn0.step)⟩
  · rw [if_neg c1] at H
    have b0 : (a1 == 2) = false := beq_eq_false_iff_ne.mpr c1
    have b1 : (a1 != 2) = true := bne_iff_ne.mpr c1
    clear c1
    by_cases p : 0 ≤ a1
    · rw [if_pos p] at H
      by_cases q : a1 < 13
      · rw [if_pos q] at H
        obtain rfl := Option.some.inj H
        obtain ⟨ad, e1, hx⟩ := Kd.at_int HRg.out a1 p q
        cases e1
        replace hx : w.cell? ⟨0, a1.toNat, none⟩ = some (.int .i64 (rd glens a1)) := by rw [add_at, Nat.zero_add] at hx; exact hx
        have p1 : decide (0 ≤ a1) = true := decide_eq_true p
        have q1 : decide (a1 < 13) = true := decide_eq_true q
        replace p := eq_true p
        replace q := eq_true q
        go_enter Tryd.func19, Tryd.ntmps19
        go_wp2
        repeat (go_quiet (fail); try go_wp2)
        go_ret
        exact ⟨by first | rfl | (simp; done) | (simp [*]; done), by repeat (first | exact Drawn0.refl _ | apply Drawn0.step)⟩
      · rw [if_neg q] at H; cases H
    · rw [if_neg p] at H; cases H

/-! ### civil_Days: function 20 -/
def civil_Days.f (a0 : Int) (a1 : Int) (a2 : Int) : Option (Int) := if a1 ≤ 2 then ((civil_floor.f (wrap64 (a0 - 1)) 400).bind fun bt112 => (some (wrap64 ((wrap64 ((wrap64 ((wrap64 ((wrap64 ((wrap64 ((wrap64 ((wrap64 (bt112.1 * 146097)) + (wrap64 (bt112.2 * 365)))) + (wrap64 (Int.tdiv bt112.2 4)))) - (wrap64 (Int.tdiv bt112.2 100)))) + (wrap64 (Int.tdiv (wrap64 ((wrap64 (153 * (Int.tmod (wrap64 (a1 + 9)) 12))) + 2)) 5)))) + a2)) - 1)) - 719468)))) else ((civil_floor.f a0 400).bind fun bt114 => (some (wrap64 ((wrap64 ((wrap64 ((wrap64 ((wrap64 ((wrap64 ((wrap64 ((wrap64 (bt114.1 * 146097)) + (wrap64 (bt114.2 * 365)))) + (wrap64 (Int.tdiv bt114.2 4)))) - (wrap64 (Int.tdiv bt114.2 100)))) + (wrap64 (Int.tdiv (wrap64 ((wrap64 (153 * (Int.tmod (wrap64 (a1 + 9)) 12))) + 2)) 5)))) + a2)) - 1)) - 719468))))
set_option maxHeartbeats 8000000 in
set_option maxRecDepth 100000 in
theorem civil_Days.calls (a0 : Int) (a1 : Int) (a2 : Int) (r : Int) (w : World) (h : civil_Days.f a0 a1 a2 = some r) :
    Calls Tryd.prog 20 #[.int .i64 a0, .int .i64 a1, .int .i64 a2] w fun e w' => e = .returned (.int .i64 r) ∧ Drawn0 w w' := by
  have H : (if a1 ≤ 2 then ((civil_floor.f (wrap64 (a0 - 1)) 400).bind fun bt112 => (some (wrap64 ((wrap64 ((wrap64 ((wrap64 ((wrap64 ((wrap64 ((wrap64 ((wrap64 (bt112.1 * 146097)) + (wrap64 (bt112.2 * 365)))) + (wrap64 (Int.tdiv bt112.2 4)))) - (wrap64 (Int.tdiv bt112.2 100)))) + (wrap64 (Int.tdiv (wrap64 ((wrap64 (153 * (Int.tmod (wrap64 (a1 + 9)) 12))) + 2)) 5)))) + a2)) - 1)) - 719468)))) else ((civil_floor.f a0 400).bind fun bt114 => (some (wrap64 ((wrap64 ((wrap64 ((wrap64 ((wrap64 ((wrap64 ((wrap64 ((wrap64 (bt114.1 * 146097)) + (wrap64 (bt114.2 * 365)))) + (wrap64 (Int.tdiv bt114.2 4)))) - (wrap64 (Int.tdiv bt114.2 100)))) + (wrap64 (Int.tdiv (wrap64 ((wrap64 (153 * (Int.tmod (wrap64 (a1 + 9)) 12))) + 2)) 5)))) + a2)) - 1)) - 719468))))) = some r := h
  clear h
  by_cases c4 : a1 ≤ 2
  · rw [if_pos c4] at H
    have c4b0 : decide (a1 ≤ 2) = true := decide_eq_true c4
    clear c4
    replace H := Option.bind_eq_some_iff.mp H
    obtain ⟨⟨t112, t113⟩, A50, H⟩ := H
    replace H : (some (wrap64 ((wrap64 ((wrap64 ((wrap64 ((wrap64 ((wrap64 ((wrap64 ((wrap64 (t112 * 146097)) + (wrap64 (t113 * 365)))) + (wrap64 (Int.tdiv t113 4)))) - (wrap64 (Int.tdiv t113 100)))) + (wrap64 (Int.tdiv (wrap64 ((wrap64 (153 * (Int.tmod (wrap64 (a1 + 9)) 12))) + 2)) 5)))) + a2)) - 1)) - 719468))) = some r := H
    have A5 := Aside0.mk A50
    clear A50
    obtain rfl := Option.some.inj H
    go_enter Tryd.func20, Tryd.ntmps20
    go_wp2_with (first | ((with_reducible refine gate_callee (f := 30) rfl ?_); refine goesL_ (some 16) rfl rfl Tryd.func30 (by kernel_rfl) rfl #[.int .i64 (wrap64 (a0 - 1)), .int .i64 400] rfl (by (try simp only [List.map_toArray, List.map_cons, List.map_nil]); first | done | rfl | (simp only [List.length_drop, List.length_take]; rfl)) ?_; (with_reducible refine (civil_floor.calls (wrap64 (a0 - 1)) 400 t112 t113 _ A5.out).mono ?_); rintro e w' ⟨rfl, ⟨nd, rfl⟩⟩; refine ⟨_, rfl, ?_⟩))
    go_ret
    exact ⟨by first | rfl | (simp; done) | (simp [*]; done), by repeat (first | exact Drawn0.refl _ | apply Drawn0.step)⟩
  · rw [if_neg c4] at H
    have c4b0 : decide (a1 ≤ 2) = false := decide_eq_false c4
    clear c4
    replace H := Option.bind_eq_some_iff.mp H
    obtain ⟨⟨t114, t115⟩, A60, H⟩ := H
    replace H : (some (wrap64 ((wrap64 ((wrap64 ((wrap64 ((wrap64 ((wrap64 ((wrap64 ((wrap64 (t114 * 146097)) + (wrap64 (t115 * 365)))) + (wrap64 (Int.tdiv t115 4)))) - (wrap64 (Int.tdiv t115 100)))) + (wrap64 (Int.tdiv (wrap64 ((wrap64 (153 * (Int.tmod (wrap64 (a1 + 9)) 12))) + 2)) 5)))) + a2)) - 1)) - 719468))) = some r := H
    have A6 := Aside0.mk A60
    clear A60
    obtain rfl := Option.some.inj H
    go_enter Tryd.func20, Tryd.ntmps20
    go_wp2_with (first | ((with_reducible refine gate_callee (f := 30) rfl ?_); refine goesL_ (some 16) rfl rfl Tryd.func30 (by kernel_rfl) rfl #[.int .i64 a0, .int .i64 400] rfl (by (try simp only [List.map_toArray, List.map_cons, List.map_nil]); first | done | rfl | (simp only [List.length_drop, List.length_take]; rfl)) ?_; (with_reducible refine (civil_floor.calls a0 400 t114 t115 _ A6.out).mono ?_); rintro e w' ⟨rfl, ⟨nd, rfl⟩⟩; refine ⟨_, rfl, ?_⟩))
    go_ret
    exact ⟨by first | rfl | (simp; done) | (simp [*]; done), by repeat (first | exact Drawn0.refl _ | apply Drawn0.step)⟩

end Go.Proofs.YtmfffkmnddeajaaDoor.G
