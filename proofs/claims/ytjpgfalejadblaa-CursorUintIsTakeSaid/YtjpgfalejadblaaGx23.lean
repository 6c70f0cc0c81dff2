/- Written by a program of this session for this seat: contracts of the functions that its laws reach, or the row of a law over its plain part. -/
import Derived.Test.YtjpgfalejadblaaGx0
import Derived.Test.YtjpgfalejadblaaGx21
import Derived.Test.YtjpgfalejadblaaGx22
namespace Go.Proofs.Ytjpgfalejadblaa.G
open Go.RowKit Go.Proofs.YtjpgfalejadblaaW.PrintWords Go.Proofs.YtjpgfalejadblaaW.PrintLast Go.Proofs.YtjpgfalejadblaaW.PrintMore
attribute [local go_sem] max2_int min2_int max_two min_two max_three min_three max_four min_four   -- for this text's walks alone
set_option linter.unusedVariables false
set_option linter.unusedSimpArgs false

/-! ### zoneinforef01_Int: function 20 -/
def zoneinforef01_Int.f (k : Nat) (l0 : List Int) (a1 : Int) (a2 : Int) : Option (Int × Bool) := (zoneinforef01_Uint.f k l0 a1 a2).bind fun bt445 => ((zoneinforef01_half.f k a2).bind fun t447 => (if bt445.1 ≥ t447 then ((zoneinforef01_half.f k a2).bind fun t448 => ((zoneinforef01_half.f k a2).bind fun t449 => (some (wrap64 ((wrap64 ((wrap64 (IntKind.u64.wrap (bt445.1 - t448))) - (wrap64 (IntKind.u64.wrap (t449 - 1))))) - 1), bt445.2)))) else (some (wrap64 (bt445.1), bt445.2))))
theorem zoneinforef01_Int.mono : ∀ a0 a1 a2 k, LeO (zoneinforef01_Int.f k a0 a1 a2) (zoneinforef01_Int.f (k + 1) a0 a1 a2) := by
  intro a0 a1 a2 k
  unfold zoneinforef01_Int.f
  repeat' first
      | (with_reducible exact zoneinforef01_Uint.mono _ _ _ _)
      | (with_reducible exact zoneinforef01_half.mono _ _)
      | (with_reducible exact LeO.refl _)
      | (with_reducible exact LeO.none _)
      | (with_reducible refine LeO.ite ?_ ?_)
      | (with_reducible refine LeO.bind ?_ (fun _ => ?_))
      | exact zoneinforef01_Uint.mono _ _ _ _
      | exact zoneinforef01_half.mono _ _
      | exact LeO.none _
      | refine LeO.ite ?_ ?_
      | refine LeO.bind ?_ (fun _ => ?_)
set_option maxHeartbeats 8000000 in
set_option maxRecDepth 100000 in
theorem zoneinforef01_Int.calls (k : Nat) (A0 : Option Addr) (c0 : Nat) (l0 : List Int) (a1 : Int) (a2 : Int) (r1 : Int) (r2 : Bool) (w : World) (hr0 : Kd.C (Kd.int .u8) w A0 l0.length l0) (hc0 : l0.length ≤ c0) (h : zoneinforef01_Int.f k l0 a1 a2 = some (r1, r2)) :
    Calls Try.prog 20 #[.slice A0 l0.length c0, .int .i64 a1, .int .i64 a2] w fun e w' => e = .returned (.tuple #[.int .i64 r1, .bool r2]) ∧ Drawn0 w w' := by
  have HR0 := Aside0.mk hr0; have HC0 := Aside0.mk hc0; clear hr0 hc0; have H : ((zoneinforef01_Uint.f k l0 a1 a2).bind fun bt445 => ((zoneinforef01_half.f k a2).bind fun t447 => (if bt445.1 ≥ t447 then ((zoneinforef01_half.f k a2).bind fun t448 => ((zoneinforef01_half.f k a2).bind fun t449 => (some (wrap64 ((wrap64 ((wrap64 (IntKind.u64.wrap (bt445.1 - t448))) - (wrap64 (IntKind.u64.wrap (t449 - 1))))) - 1), bt445.2)))) else (some (wrap64 (bt445.1), bt445.2))))) = some (r1, r2) := h; clear h; replace H := Option.bind_eq_some_iff.mp H; obtain ⟨⟨t445, t446⟩, A40, H⟩ := H
  replace H : ((zoneinforef01_half.f k a2).bind fun t447 => (if t445 ≥ t447 then ((zoneinforef01_half.f k a2).bind fun t448 => ((zoneinforef01_half.f k a2).bind fun t449 => (some (wrap64 ((wrap64 ((wrap64 (IntKind.u64.wrap (t445 - t448))) - (wrap64 (IntKind.u64.wrap (t449 - 1))))) - 1), t446)))) else (some (wrap64 (t445), t446)))) = some (r1, r2) := H
  have A4 := Aside0.mk A40; clear A40; replace H := Option.bind_eq_some_iff.mp H; obtain ⟨t447, A50, H⟩ := H
  replace H : (if t445 ≥ t447 then ((zoneinforef01_half.f k a2).bind fun t448 => ((zoneinforef01_half.f k a2).bind fun t449 => (some (wrap64 ((wrap64 ((wrap64 (IntKind.u64.wrap (t445 - t448))) - (wrap64 (IntKind.u64.wrap (t449 - 1))))) - 1), t446)))) else (some (wrap64 (t445), t446))) = some (r1, r2) := H
  have A5 := Aside0.mk A50; clear A50
  by_cases c6 : t445 ≥ t447
  · rw [if_pos c6] at H
    have c6b0 : decide (t447 ≤ t445) = true := decide_eq_true c6; clear c6; replace H := Option.bind_eq_some_iff.mp H; obtain ⟨t448, A70, H⟩ := H
    replace H : ((zoneinforef01_half.f k a2).bind fun t449 => (some (wrap64 ((wrap64 ((wrap64 (IntKind.u64.wrap (t445 - t448))) - (wrap64 (IntKind.u64.wrap (t449 - 1))))) - 1), t446))) = some (r1, r2) := H
    have A7 := Aside0.mk A70; clear A70; replace H := Option.bind_eq_some_iff.mp H; obtain ⟨t449, A80, H⟩ := H
    replace H : (some (wrap64 ((wrap64 ((wrap64 (IntKind.u64.wrap (t445 - t448))) - (wrap64 (IntKind.u64.wrap (t449 - 1))))) - 1), t446)) = some (r1, r2) := H
    have A8 := Aside0.mk A80; clear A80
    simp only [Option.some.injEq, Prod.mk.injEq] at H
    obtain ⟨rfl, rfl⟩ := H
    go_enter Try.func20, Try.ntmps20
    go_wp2_with (first | ((with_reducible refine gate_callee (f := 19) rfl ?_); refine goesL_ (some 14) rfl rfl Try.func19 (by kernel_rfl) rfl #[.slice A0 l0.length c0, .int .i64 a1, .int .i64 a2] rfl (by (try simp only [List.map_toArray, List.map_cons, List.map_nil]); first | done | rfl | (simp only [List.length_drop, List.length_take]; rfl)) ?_; (with_reducible refine (zoneinforef01_Uint.calls k _ _ l0 a1 a2 t445 t446 _ ?side1 ?side2 A4.out).mono ?_); (case side1 => repeat (first | exact HR0.out | (with_reducible refine Kd.C_alloc ?_ _) | (with_reducible refine Kd.C_drewN ?_ _) | (with_reducible refine Kd.C_drew ?_))); (case side2 => exact HC0.out); rintro e w' ⟨rfl, ⟨nd, rfl⟩⟩; refine ⟨_, rfl, ?_⟩) | ((with_reducible refine gate_callee (f := 26) rfl ?_); refine goesL_ (some 19) rfl rfl Try.func26 (by kernel_rfl) rfl #[.int .i64 a2] rfl (by (try simp only [List.map_toArray, List.map_cons, List.map_nil]); first | done | rfl | (simp only [List.length_drop, List.length_take]; rfl)) ?_; (with_reducible refine (zoneinforef01_half.calls k a2 t447 _ A5.out).mono ?_); rintro e w' ⟨rfl, ⟨nd, rfl⟩⟩; refine ⟨_, rfl, ?_⟩) | ((with_reducible refine gate_callee (f := 26) rfl ?_); refine goesL_ (some 23) rfl rfl Try.func26 (by kernel_rfl) rfl #[.int .i64 a2] rfl (by (try simp only [List.map_toArray, List.map_cons, List.map_nil]); first | done | rfl | (simp only [List.length_drop, List.length_take]; rfl)) ?_; (with_reducible refine (zoneinforef01_half.calls k a2 t448 _ A7.out).mono ?_); rintro e w' ⟨rfl, ⟨nd, rfl⟩⟩; refine ⟨_, rfl, ?_⟩) | ((with_reducible refine gate_callee (f := 26) rfl ?_); refine goesL_ (some 27) rfl rfl Try.func26 (by kernel_rfl) rfl #[.int .i64 a2] rfl (by (try simp only [List.map_toArray, List.map_cons, List.map_nil]); first | done | rfl | (simp only [List.length_drop, List.length_take]; rfl)) ?_; (with_reducible refine (zoneinforef01_half.calls k a2 t449 _ A8.out).mono ?_); rintro e w' ⟨rfl, ⟨nd, rfl⟩⟩; refine ⟨_, rfl, ?_⟩))
    go_ret2
    exact ⟨by first | rfl | (simp; done) | (simp [*]; done), by repeat (first | exact Drawn0.refl _ | apply Drawn0.step)⟩
  · rw [if_neg c6] at H
    have c6b0 : decide (t447 ≤ t445) = false := decide_eq_false c6; clear c6
    simp only [Option.some.injEq, Prod.mk.injEq] at H
    obtain ⟨rfl, rfl⟩ := H
    go_enter Try.func20, Try.ntmps20
    go_wp2_with (first | ((with_reducible refine gate_callee (f := 19) rfl ?_); refine goesL_ (some 14) rfl rfl Try.func19 (by kernel_rfl) rfl #[.slice A0 l0.length c0, .int .i64 a1, .int .i64 a2] rfl (by (try simp only [List.map_toArray, List.map_cons, List.map_nil]); first | done | rfl | (simp only [List.length_drop, List.length_take]; rfl)) ?_; (with_reducible refine (zoneinforef01_Uint.calls k _ _ l0 a1 a2 t445 t446 _ ?side1 ?side2 A4.out).mono ?_); (case side1 => repeat (first | exact HR0.out | (with_reducible refine Kd.C_alloc ?_ _) | (with_reducible refine Kd.C_drewN ?_ _) | (with_reducible refine Kd.C_drew ?_))); (case side2 => exact HC0.out); rintro e w' ⟨rfl, ⟨nd, rfl⟩⟩; refine ⟨_, rfl, ?_⟩) | ((with_reducible refine gate_callee (f := 26) rfl ?_); refine goesL_ (some 19) rfl rfl Try.func26 (by kernel_rfl) rfl #[.int .i64 a2] rfl (by (try simp only [List.map_toArray, List.map_cons, List.map_nil]); first | done | rfl | (simp only [List.length_drop, List.length_take]; rfl)) ?_; (with_reducible refine (zoneinforef01_half.calls k a2 t447 _ A5.out).mono ?_); rintro e w' ⟨rfl, ⟨nd, rfl⟩⟩; refine ⟨_, rfl, ?_⟩))
    go_ret2
    exact ⟨by first | rfl | (simp; done) | (simp [*]; done), by repeat (first | exact Drawn0.refl _ | apply Drawn0.step)⟩

end Go.Proofs.Ytjpgfalejadblaa.G
