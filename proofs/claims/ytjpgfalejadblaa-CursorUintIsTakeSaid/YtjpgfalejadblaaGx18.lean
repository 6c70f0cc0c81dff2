/- Written by a program of this session for this seat: contracts of the functions that its laws reach, or the row of a law over its plain part. -/
import Derived.Test.YtjpgfalejadblaaGx0
namespace Go.Proofs.Ytjpgfalejadblaa.G
open Go.RowKit Go.Proofs.YtjpgfalejadblaaW.PrintWords Go.Proofs.YtjpgfalejadblaaW.PrintLast Go.Proofs.YtjpgfalejadblaaW.PrintMore
attribute [local go_sem] max2_int min2_int max_two min_two max_three min_three max_four min_four   -- for this text's walks alone
set_option linter.unusedVariables false
set_option linter.unusedSimpArgs false

/-! ### zoneinforef01_Width: function 15 -/
def zoneinforef01_Width.f (a0 : Int) : Option (Int) := (some (([1, 4, 8] : List Int) : List Int)).bind fun y352 => (if 0 ≤ (Int.tmod a0 3) then (if (Int.tmod a0 3) < (y352.length : Int) then (some (rd y352 (Int.tmod a0 3))) else (none)) else (none))
set_option maxHeartbeats 8000000 in
set_option maxRecDepth 100000 in
theorem zoneinforef01_Width.calls (a0 : Int) (r : Int) (w : World) (h : zoneinforef01_Width.f a0 = some r) :
    Calls Try.prog 15 #[.int .u8 a0] w fun e w' => e = .returned (.int .i64 r) ∧ Below w.heap.size w w' := by
  have HB := Aside0.mk (Below.refl w.heap.size w); have H : ((some (([1, 4, 8] : List Int) : List Int)).bind fun y352 => (if 0 ≤ (Int.tmod a0 3) then (if (Int.tmod a0 3) < (y352.length : Int) then (some (rd y352 (Int.tmod a0 3))) else (none)) else (none))) = some r := h; clear h
  obtain ⟨y352, hy352⟩ : ∃ y_ : List Int, y_ = (([1, 4, 8] : List Int)) := ⟨_, rfl⟩
  replace H : (if 0 ≤ (Int.tmod a0 3) then (if (Int.tmod a0 3) < (y352.length : Int) then (some (rd y352 (Int.tmod a0 3))) else (none)) else (none)) = some r := by first | (rw [hy352]; with_reducible exact H) | (have H2_ := (Option.bind_some _ _).symm.trans H; rw [hy352]; with_reducible exact H2_) | (have H2_ := (Option.bind_some _ _).symm.trans H; with_reducible exact H2_) | with_reducible exact H | (rw [hy352]; exact H) | exact H
  have Ny352 := Aside0.mk hy352; clear hy352
  obtain ⟨ji2, hji2⟩ : ∃ j_ : Int, (Int.tmod a0 3) = j_ := ⟨_, rfl⟩
  replace H : (if 0 ≤ (ji2) then (if (ji2) < (y352.length : Int) then (some (rd y352 (ji2))) else (none)) else (none)) = some r := by first | (rw [hji2] at H; exact H) | (simp only [hji2] at H ⊢; exact H)
  by_cases c3 : 0 ≤ (ji2)
  · rw [if_pos c3] at H
    have c3b0 : decide (0 ≤ (ji2)) = true := decide_eq_true c3; clear c3
    by_cases c4 : (ji2) < (y352.length : Int)
    · rw [if_pos c4] at H
      have c4b0 : decide ((ji2) < (y352.length : Int)) = true := decide_eq_true c4; clear c4
      obtain rfl := Option.some.inj H
      go_enter Try.func15, Try.ntmps15
      go_wp2_with (first | ((with_reducible refine gate_dst (N := 3) rfl ?_); refine Kd.R_lit (Kd.int .i64) _ 3 ?hg (N := 3) ?hd (xs := ([1, 4, 8] : List Int)) (inner := [.int .i64 1, .int .i64 4, .int .i64 8]) (ok := fun _ => True) (okp := fun _ => True) ?hr ?hp (fun _ hk => hk) trivial (Below.refl _ _) (Nat.le_refl _) (by simp) ?_; (case hd => rfl); (case hg => rfl); (case hr => first | (go_simp; done) | (go_simp; rfl)); (case hp => exact (Reps.one (show Kd.M (Kd.int .i64) _ _ _ 1 [.int .i64 1] from rfl) (Reps.one (show Kd.M (Kd.int .i64) _ _ _ 4 [.int .i64 4] from rfl) (Reps.one (show Kd.M (Kd.int .i64) _ _ _ 8 [.int .i64 8] from rfl) (Reps.none _ _))))); intro v353 w5 ho6 hb hg_ hnew_; clear hg_ hnew_; (first | rw [← Ny352.out] at ho6 | (simp only [Int.reduceToNat] at ho6; rw [← Ny352.out] at ho6)); have n0_ := Aside0.mk (Kd.R_lower ho6 (below_size (by repeat (first | (with_reducible first | exact HB.out | apply below_alloc | apply pw_below_drewN | apply below_drew1) | exact HB.out)))); have n1_ := Aside0.mk (below_step (by repeat (first | (with_reducible first | exact HB.out | apply below_alloc | apply pw_below_drewN | apply below_drew1) | exact HB.out)) hb); clear HB; have HO354 := n0_; have HB := n1_; clear n0_ n1_; clear hb ho6; obtain ⟨Ao7, co7, eo7⟩ := Kd.R_slice HO354.out; subst eo7; have p355 : 0 ≤ ((ji2) : Int) := of_decide_eq_true (by first | (with_reducible assumption) | assumption); have q355 : (ji2) < (y352.length : Int) := of_decide_eq_true (by first | (with_reducible assumption) | assumption); obtain ⟨ad355, e355, hx355_0⟩ := Kd.at_int (Kd.R_reads' HO354.out).2.2 (ji2) p355 q355; cases e355; replace p355 := eq_true p355; replace q355 := eq_true q355))
      go_ret
      exact ⟨by first | rfl | (simp [errW_none, errW_some] <;> rfl) | (simp only [← hji2]; first | rfl | (simp [errW_none, errW_some] <;> rfl)) | (simp [*, errW_none, errW_some] <;> rfl), by repeat (first | (with_reducible first | exact HB.out | apply below_alloc | apply pw_below_drewN | apply below_drew1) | exact HB.out)⟩
    · rw [if_neg c4] at H
      exact absurd H (by simp)
  · rw [if_neg c3] at H
    exact absurd H (by simp)

end Go.Proofs.Ytjpgfalejadblaa.G
