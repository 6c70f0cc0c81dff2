/- Written by a program of this session for this seat: contracts of the functions that its laws reach, or the row of a law over its plain part. -/
import Derived.Test.YtjpgfalejadblaaGx0
import Derived.Test.YtjpgfalejadblaaGx7
namespace Go.Proofs.Ytjpgfalejadblaa.G
open Go.RowKit Go.Proofs.YtjpgfalejadblaaW.PrintWords Go.Proofs.YtjpgfalejadblaaW.PrintLast Go.Proofs.YtjpgfalejadblaaW.PrintMore
attribute [local go_sem] max2_int min2_int max_two min_two max_three min_three max_four min_four   -- for this text's walks alone
set_option linter.unusedVariables false
set_option linter.unusedSimpArgs false

/-! ### bigendian_Int: function 25 -/
def bigendian_Int.f (k : Nat) (l0 : List Int) (a1 : Int) (a2 : Int) : Option (Int × Bool) := (bigendian_Uint.f k l0 a1 a2).bind fun bt165 => (if 0 ≤ (IntKind.u64.wrap (wrap64 (64 - (wrap64 (8 * a2))))) then (some (shr .i64 (wrap64 (shl .u64 bt165.1 (IntKind.u64.wrap (wrap64 (64 - (wrap64 (8 * a2))))))) (IntKind.u64.wrap (wrap64 (64 - (wrap64 (8 * a2))))), bt165.2)) else (none))
theorem bigendian_Int.mono : ∀ a0 a1 a2 k, LeO (bigendian_Int.f k a0 a1 a2) (bigendian_Int.f (k + 1) a0 a1 a2) := by
  intro a0 a1 a2 k
  unfold bigendian_Int.f
  repeat' first
      | (with_reducible exact bigendian_Uint.mono _ _ _ _)
      | (with_reducible exact LeO.refl _)
      | (with_reducible exact LeO.none _)
      | (with_reducible refine LeO.ite ?_ ?_)
      | (with_reducible refine LeO.bind ?_ (fun _ => ?_))
      | exact bigendian_Uint.mono _ _ _ _
      | exact LeO.none _
      | refine LeO.ite ?_ ?_
      | refine LeO.bind ?_ (fun _ => ?_)
set_option maxHeartbeats 8000000 in
set_option maxRecDepth 100000 in
theorem bigendian_Int.calls (k : Nat) (A0 : Option Addr) (c0 : Nat) (l0 : List Int) (a1 : Int) (a2 : Int) (r1 : Int) (r2 : Bool) (w : World) (hr0 : Kd.C (Kd.int .u8) w A0 l0.length l0) (hc0 : l0.length ≤ c0) (h : bigendian_Int.f k l0 a1 a2 = some (r1, r2)) :
    Calls Try.prog 25 #[.slice A0 l0.length c0, .int .i64 a1, .int .i64 a2] w fun e w' => e = .returned (.tuple #[.int .i64 r1, .bool r2]) ∧ Drawn0 w w' := by
  have HR0 := Aside0.mk hr0; have HC0 := Aside0.mk hc0; clear hr0 hc0; have H : ((bigendian_Uint.f k l0 a1 a2).bind fun bt165 => (if 0 ≤ (IntKind.u64.wrap (wrap64 (64 - (wrap64 (8 * a2))))) then (some (shr .i64 (wrap64 (shl .u64 bt165.1 (IntKind.u64.wrap (wrap64 (64 - (wrap64 (8 * a2))))))) (IntKind.u64.wrap (wrap64 (64 - (wrap64 (8 * a2))))), bt165.2)) else (none))) = some (r1, r2) := h; clear h; replace H := Option.bind_eq_some_iff.mp H; obtain ⟨⟨t165, t166⟩, A40, H⟩ := H
  replace H : (if 0 ≤ (IntKind.u64.wrap (wrap64 (64 - (wrap64 (8 * a2))))) then (some (shr .i64 (wrap64 (shl .u64 t165 (IntKind.u64.wrap (wrap64 (64 - (wrap64 (8 * a2))))))) (IntKind.u64.wrap (wrap64 (64 - (wrap64 (8 * a2))))), t166)) else (none)) = some (r1, r2) := H
  have A4 := Aside0.mk A40; clear A40
  obtain ⟨ji5, hji5⟩ : ∃ j_ : Int, (IntKind.u64.wrap (wrap64 (64 - (wrap64 (8 * a2))))) = j_ := ⟨_, rfl⟩
  replace H : (if 0 ≤ (ji5) then (some (shr .i64 (wrap64 (shl .u64 t165 (ji5))) (ji5), t166)) else (none)) = some (r1, r2) := by first | (rw [hji5] at H; exact H) | (simp only [hji5] at H ⊢; exact H)
  (try rw [hji5] at A4)
  by_cases c6 : 0 ≤ (ji5)
  · rw [if_pos c6] at H
    have c6b0 := eq_true c6; have c6b1 : decide (0 ≤ (ji5)) = true := decide_eq_true c6; clear c6
    obtain ⟨ji7, hji7⟩ : ∃ j_ : Int, (shl .u64 t165 (ji5)) = j_ := ⟨_, rfl⟩
    replace H : (some (shr .i64 (wrap64 (ji7)) (ji5), t166)) = some (r1, r2) := by first | (rw [hji7] at H; exact H) | (simp only [hji7] at H ⊢; exact H)
    (try rw [hji7] at A4); have hji7_ : (IntKind.u64.wrap (t165 * 2 ^ min (ji5).toNat 64)) = ji7 := hji7; have hji7z : (ji5) ≤ 64 → (IntKind.u64.wrap (t165 * 2 ^ (ji5).toNat)) = ji7 := shl_small hji7; have c8b0 := eq_true (of_decide_eq_true (by first | (with_reducible assumption) | assumption) : 0 ≤ (ji5))
    obtain ⟨ji9, hji9⟩ : ∃ j_ : Int, (shr .i64 (wrap64 (ji7)) (ji5)) = j_ := ⟨_, rfl⟩
    replace H : (some (ji9, t166)) = some (r1, r2) := by first | (rw [hji9] at H; exact H) | (simp only [hji9] at H ⊢; exact H)
    (try rw [hji9] at A4); have hji9_ : ((wrap64 (ji7)) / 2 ^ min (ji5).toNat 64) = ji9 := hji9; have hji9z : (ji5) ≤ 64 → ((wrap64 (ji7)) / 2 ^ (ji5).toNat) = ji9 := shr_small hji9
    simp only [Option.some.injEq, Prod.mk.injEq] at H
    obtain ⟨rfl, rfl⟩ := H
    go_enter Try.func25, Try.ntmps25
    go_wp2_with (first | ((with_reducible refine gate_callee (f := 23) rfl ?_); refine goesL_ (some 15) rfl rfl Try.func23 (by kernel_rfl) rfl #[.slice A0 l0.length c0, .int .i64 a1, .int .i64 a2] rfl (by (try simp only [List.map_toArray, List.map_cons, List.map_nil]); first | done | rfl | (simp only [List.length_drop, List.length_take]; rfl)) ?_; (with_reducible refine (bigendian_Uint.calls k _ _ l0 a1 a2 t165 t166 _ ?side1 ?side2 A4.out).mono ?_); (case side1 => repeat (first | exact HR0.out | (with_reducible refine Kd.C_alloc ?_ _) | (with_reducible refine Kd.C_drewN ?_ _) | (with_reducible refine Kd.C_drew ?_))); (case side2 => exact HC0.out); rintro e w' ⟨rfl, ⟨nd, rfl⟩⟩; refine ⟨_, rfl, ?_⟩))
    go_ret2
    exact ⟨by first | rfl | (simp; done) | (simp only [← hji5, ← hji7, ← hji9] <;> (first | rfl | simp)) | (simp [*]; done), by repeat (first | exact Drawn0.refl _ | apply Drawn0.step)⟩
  · rw [if_neg c6] at H
    exact absurd H (by simp)

end Go.Proofs.Ytjpgfalejadblaa.G
