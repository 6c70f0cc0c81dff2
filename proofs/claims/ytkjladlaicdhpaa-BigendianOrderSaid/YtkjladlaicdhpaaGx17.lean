/- Written by a program of this session for this seat: contracts of the functions that its laws reach, or the row of a law over its plain part. -/
import Derived.Test.YtkjladlaicdhpaaGx0
import Derived.Test.YtkjladlaicdhpaaGx4
import Derived.Test.YtkjladlaicdhpaaGx5
import Derived.Test.YtkjladlaicdhpaaGx6
import Derived.Test.YtkjladlaicdhpaaGx7
namespace Go.Proofs.Ytkjladlaicdhpaa.G
open Go.RowKit Go.Proofs.YtkjladlaicdhpaaW.PrintWords Go.Proofs.YtkjladlaicdhpaaW.PrintLast Go.Proofs.YtkjladlaicdhpaaW.PrintMore
attribute [local go_sem] max2_int min2_int max_two min_two max_three min_three max_four min_four   -- for this text's walks alone
set_option linter.unusedVariables false
set_option linter.unusedSimpArgs false

/-! ### zoneinfolaw01_BigendianOrder: function 7 -/
mutual
def zoneinfolaw01_BigendianOrder.j0 : Nat → Int → Int → Int → Int → Option (Bool)
  | 0, _, _, _, _ => none
  | k + 1, x1, x2, x3, x9 => (bigendian_Append.f k ([] : List Int) x9 x1).bind fun t253 => ((bigendian_Append.f k ([] : List Int) x9 x2).bind fun t256 => (if (t253.length : Int) = x9 then (zoneinfolaw01_BigendianOrder.j1 k x1 x2 x3 x9 t253 t256 ((t256.length : Int) != x9)) else (zoneinfolaw01_BigendianOrder.j1 k x1 x2 x3 x9 t253 t256 true)))
def zoneinfolaw01_BigendianOrder.j1 : Nat → Int → Int → Int → Int → List Int → List Int → Bool → Option (Bool)
  | 0, _, _, _, _, _, _, _ => none
  | k + 1, x1, x2, x3, x9, x10, x11, x47 => if x47 = true then (some false) else (zoneinfolaw01_BigendianOrder.l0 k x1 x2 x3 x10 x11 false (wrap64 (x9 - 1)))
def zoneinfolaw01_BigendianOrder.l0 : Nat → Int → Int → Int → List Int → List Int → Bool → Int → Option (Bool)
  | 0, _, _, _, _, _, _, _ => none
  | k + 1, x1, x2, x3, x10, x11, x12, x13 => if x13 ≥ 0 then (if 0 ≤ x13 then (if x13 < (x10.length : Int) then (if x13 < (x11.length : Int) then (if (rd x10 x13) = (rd x11 x13) then (zoneinfolaw01_BigendianOrder.l0 k x1 x2 x3 x10 x11 x12 (wrap64 (x13 - 1))) else (zoneinfolaw01_BigendianOrder.l0 k x1 x2 x3 x10 x11 (decide ((rd x10 x13) < (rd x11 x13))) (wrap64 (x13 - 1)))) else (none)) else (none)) else (none)) else (if (x12 == (decide (x1 < x2))) = true then ((bigendian_Fits.f x3 1).bind fun t263 => (if t263 = true then ((bigendian_Fits.f x3 4).bind fun t264 => (if t264 = true then ((bigendian_Fits.f x3 8).bind fun t265 => (if t265 = true then (some t265) else (some false))) else (some false))) else ((bigendian_Fits.f x3 4).bind fun t266 => (if t266 = true then ((bigendian_Fits.f x3 8).bind fun t267 => (if t267 = true then (some t267) else (some false))) else ((bigendian_Fits.f x3 8).bind fun t268 => (some t268)))))) else (some false))
end
def zoneinfolaw01_BigendianOrder.f (k : Nat) (a0 : Int) (a1 : Int) (a2 : Int) (a3 : Int) : Option (Bool) := (zoneinfolaw01_awake.f k).bind fun t251 => (if t251 = true then ((zoneinforef01_Width.f a0).bind fun t252 => (if t252 < 8 then (if 0 ≤ (IntKind.u64.wrap (8 * (IntKind.u64.wrap (t252)))) then (if (shl .u64 1 (IntKind.u64.wrap (8 * (IntKind.u64.wrap (t252))))) = 0 then (none) else (zoneinfolaw01_BigendianOrder.j0 k (Int.tmod a1 (shl .u64 1 (IntKind.u64.wrap (8 * (IntKind.u64.wrap (t252)))))) (Int.tmod a2 (shl .u64 1 (IntKind.u64.wrap (8 * (IntKind.u64.wrap (t252)))))) a3 t252)) else (none)) else (zoneinfolaw01_BigendianOrder.j0 k a1 a2 a3 t252))) else (some false))
theorem zoneinfolaw01_BigendianOrder.mono_l : ∀ k, (∀ y0 y1 y2 y3, LeO (zoneinfolaw01_BigendianOrder.j0 k y0 y1 y2 y3) (zoneinfolaw01_BigendianOrder.j0 (k + 1) y0 y1 y2 y3)) ∧ (∀ y0 y1 y2 y3 y4 y5 y6, LeO (zoneinfolaw01_BigendianOrder.j1 k y0 y1 y2 y3 y4 y5 y6) (zoneinfolaw01_BigendianOrder.j1 (k + 1) y0 y1 y2 y3 y4 y5 y6)) ∧ (∀ y0 y1 y2 y3 y4 y5 y6, LeO (zoneinfolaw01_BigendianOrder.l0 k y0 y1 y2 y3 y4 y5 y6) (zoneinfolaw01_BigendianOrder.l0 (k + 1) y0 y1 y2 y3 y4 y5 y6))
  | 0 => ⟨fun _ _ _ _ r h => by simp [zoneinfolaw01_BigendianOrder.j0] at h, fun _ _ _ _ _ _ _ r h => by simp [zoneinfolaw01_BigendianOrder.j1] at h, fun _ _ _ _ _ _ _ r h => by simp [zoneinfolaw01_BigendianOrder.l0] at h⟩
  | k + 1 => by
    obtain ⟨ih0, ih1, ih2⟩ := zoneinfolaw01_BigendianOrder.mono_l k
    refine ⟨?_, ?_, ?_⟩
    · intro y0 y1 y2 y3
      unfold zoneinfolaw01_BigendianOrder.j0
      repeat' first
      | (with_reducible exact ih0 _ _ _ _)
      | (with_reducible exact ih1 _ _ _ _ _ _ _)
      | (with_reducible exact ih2 _ _ _ _ _ _ _)
      | (with_reducible exact bigendian_Append.mono _ _ _ _)
      | (with_reducible exact zoneinfolaw01_awake.mono _)
      | (with_reducible exact LeO.refl _)
      | (with_reducible exact LeO.none _)
      | (with_reducible refine LeO.ite ?_ ?_)
      | (with_reducible refine LeO.bind ?_ (fun _ => ?_))
      | exact ih0 _ _ _ _
      | exact ih1 _ _ _ _ _ _ _
      | exact ih2 _ _ _ _ _ _ _
      | exact bigendian_Append.mono _ _ _ _
      | exact zoneinfolaw01_awake.mono _
      | exact LeO.none _
      | refine LeO.ite ?_ ?_
      | refine LeO.bind ?_ (fun _ => ?_)
    · intro y0 y1 y2 y3 y4 y5 y6
      unfold zoneinfolaw01_BigendianOrder.j1
      repeat' first
      | (with_reducible exact ih0 _ _ _ _)
      | (with_reducible exact ih1 _ _ _ _ _ _ _)
      | (with_reducible exact ih2 _ _ _ _ _ _ _)
      | (with_reducible exact bigendian_Append.mono _ _ _ _)
      | (with_reducible exact zoneinfolaw01_awake.mono _)
      | (with_reducible exact LeO.refl _)
      | (with_reducible exact LeO.none _)
      | (with_reducible refine LeO.ite ?_ ?_)
      | (with_reducible refine LeO.bind ?_ (fun _ => ?_))
      | exact ih0 _ _ _ _
      | exact ih1 _ _ _ _ _ _ _
      | exact ih2 _ _ _ _ _ _ _
      | exact bigendian_Append.mono _ _ _ _
      | exact zoneinfolaw01_awake.mono _
      | exact LeO.none _
      | refine LeO.ite ?_ ?_
      | refine LeO.bind ?_ (fun _ => ?_)
    · intro y0 y1 y2 y3 y4 y5 y6
      unfold zoneinfolaw01_BigendianOrder.l0
      repeat' first
      | (with_reducible exact ih0 _ _ _ _)
      | (with_reducible exact ih1 _ _ _ _ _ _ _)
      | (with_reducible exact ih2 _ _ _ _ _ _ _)
      | (with_reducible exact bigendian_Append.mono _ _ _ _)
      | (with_reducible exact zoneinfolaw01_awake.mono _)
      | (with_reducible exact LeO.refl _)
      | (with_reducible exact LeO.none _)
      | (with_reducible refine LeO.ite ?_ ?_)
      | (with_reducible refine LeO.bind ?_ (fun _ => ?_))
      | exact ih0 _ _ _ _
      | exact ih1 _ _ _ _ _ _ _
      | exact ih2 _ _ _ _ _ _ _
      | exact bigendian_Append.mono _ _ _ _
      | exact zoneinfolaw01_awake.mono _
      | exact LeO.none _
      | refine LeO.ite ?_ ?_
      | refine LeO.bind ?_ (fun _ => ?_)
theorem zoneinfolaw01_BigendianOrder.mono : ∀ a0 a1 a2 a3 k, LeO (zoneinfolaw01_BigendianOrder.f k a0 a1 a2 a3) (zoneinfolaw01_BigendianOrder.f (k + 1) a0 a1 a2 a3) := by
  intro a0 a1 a2 a3 k
  obtain ⟨ih0, ih1, ih2⟩ := zoneinfolaw01_BigendianOrder.mono_l k
  unfold zoneinfolaw01_BigendianOrder.f
  repeat' first
      | (with_reducible exact ih0 _ _ _ _)
      | (with_reducible exact ih1 _ _ _ _ _ _ _)
      | (with_reducible exact ih2 _ _ _ _ _ _ _)
      | (with_reducible exact bigendian_Append.mono _ _ _ _)
      | (with_reducible exact zoneinfolaw01_awake.mono _)
      | (with_reducible exact LeO.refl _)
      | (with_reducible exact LeO.none _)
      | (with_reducible refine LeO.ite ?_ ?_)
      | (with_reducible refine LeO.bind ?_ (fun _ => ?_))
      | exact ih0 _ _ _ _
      | exact ih1 _ _ _ _ _ _ _
      | exact ih2 _ _ _ _ _ _ _
      | exact bigendian_Append.mono _ _ _ _
      | exact zoneinfolaw01_awake.mono _
      | exact LeO.none _
      | refine LeO.ite ?_ ?_
      | refine LeO.bind ?_ (fun _ => ?_)
set_option maxHeartbeats 8000000 in
set_option maxRecDepth 100000 in
theorem zoneinfolaw01_BigendianOrder.calls (k : Nat) (a0 : Int) (a1 : Int) (a2 : Int) (a3 : Int) (r : Bool) (w : World) (h : zoneinfolaw01_BigendianOrder.f k a0 a1 a2 a3 = some r) :
    Calls Try.prog 7 #[.int .u8 a0, .int .u64 a1, .int .u64 a2, .int .i64 a3] w fun e w' => e = .returned (.bool r) ∧ Below w.heap.size w w' := by
  have HB := Aside0.mk (Below.refl w.heap.size w)
  have H : ((zoneinfolaw01_awake.f k).bind fun t251 => (if t251 = true then ((zoneinforef01_Width.f a0).bind fun t252 => (if t252 < 8 then (if 0 ≤ (IntKind.u64.wrap (8 * (IntKind.u64.wrap (t252)))) then (if (shl .u64 1 (IntKind.u64.wrap (8 * (IntKind.u64.wrap (t252))))) = 0 then (none) else (zoneinfolaw01_BigendianOrder.j0 k (Int.tmod a1 (shl .u64 1 (IntKind.u64.wrap (8 * (IntKind.u64.wrap (t252)))))) (Int.tmod a2 (shl .u64 1 (IntKind.u64.wrap (8 * (IntKind.u64.wrap (t252)))))) a3 t252)) else (none)) else (zoneinfolaw01_BigendianOrder.j0 k a1 a2 a3 t252))) else (some false))) = some r := h
  clear h
  replace H := Option.bind_eq_some_iff.mp H
  obtain ⟨t251, A50, H⟩ := H
  replace H : (if t251 = true then ((zoneinforef01_Width.f a0).bind fun t252 => (if t252 < 8 then (if 0 ≤ (IntKind.u64.wrap (8 * (IntKind.u64.wrap (t252)))) then (if (shl .u64 1 (IntKind.u64.wrap (8 * (IntKind.u64.wrap (t252))))) = 0 then (none) else (zoneinfolaw01_BigendianOrder.j0 k (Int.tmod a1 (shl .u64 1 (IntKind.u64.wrap (8 * (IntKind.u64.wrap (t252)))))) (Int.tmod a2 (shl .u64 1 (IntKind.u64.wrap (8 * (IntKind.u64.wrap (t252)))))) a3 t252)) else (none)) else (zoneinfolaw01_BigendianOrder.j0 k a1 a2 a3 t252))) else (some false)) = some r := H
  have A5 := Aside0.mk A50
  clear A50
  by_cases c6 : t251 = true
  · subst c6
    have H1 : ((zoneinforef01_Width.f a0).bind fun t252 => (if t252 < 8 then (if 0 ≤ (IntKind.u64.wrap (8 * (IntKind.u64.wrap (t252)))) then (if (shl .u64 1 (IntKind.u64.wrap (8 * (IntKind.u64.wrap (t252))))) = 0 then (none) else (zoneinfolaw01_BigendianOrder.j0 k (Int.tmod a1 (shl .u64 1 (IntKind.u64.wrap (8 * (IntKind.u64.wrap (t252)))))) (Int.tmod a2 (shl .u64 1 (IntKind.u64.wrap (8 * (IntKind.u64.wrap (t252)))))) a3 t252)) else (none)) else (zoneinfolaw01_BigendianOrder.j0 k a1 a2 a3 t252))) = some r := by rw [if_pos rfl] at H; exact H
    clear H
    have H := H1
    clear H1
    replace H := Option.bind_eq_some_iff.mp H
    obtain ⟨t252, A70, H⟩ := H
    replace H : (if t252 < 8 then (if 0 ≤ (IntKind.u64.wrap (8 * (IntKind.u64.wrap (t252)))) then (if (shl .u64 1 (IntKind.u64.wrap (8 * (IntKind.u64.wrap (t252))))) = 0 then (none) else (zoneinfolaw01_BigendianOrder.j0 k (Int.tmod a1 (shl .u64 1 (IntKind.u64.wrap (8 * (IntKind.u64.wrap (t252)))))) (Int.tmod a2 (shl .u64 1 (IntKind.u64.wrap (8 * (IntKind.u64.wrap (t252)))))) a3 t252)) else (none)) else (zoneinfolaw01_BigendianOrder.j0 k a1 a2 a3 t252)) = some r := H
    have A7 := Aside0.mk A70
    clear A70
    have HC8 := Aside0.mk H
    clear H
    go_enter Try.func7, Try.ntmps7
    go_upto_if 19 with (first | (go_at_call 8; (with_reducible refine (zoneinfolaw01_awake.calls k  true _ A5.out).mono ?_); rintro e w9 ⟨rfl, hb⟩; have n0_ := Aside0.mk (below_step (by repeat (first | (with_reducible first | exact HB.out | apply below_alloc | apply pw_below_drewN | apply below_drew1) | exact HB.out)) hb); clear HB; have HB := n0_; clear n0_; (try clear hb); (try clear hb2); (try clear hk); (try clear hi)) | (go_at_call 9; (with_reducible refine (zoneinforef01_Width.calls a0 t252 _ A7.out).mono ?_); rintro e w10 ⟨rfl, hb⟩; have n0_ := Aside0.mk (below_step (by repeat (first | (with_reducible first | exact HB.out | apply below_alloc | apply pw_below_drewN | apply below_drew1) | exact HB.out)) hb); clear HB; have HB := n0_; clear n0_; (try clear hb); (try clear hb2); (try clear hk); (try clear hi)))
    repeat (go_quiet (first | (go_at_call 8; (with_reducible refine (zoneinfolaw01_awake.calls k  true _ A5.out).mono ?_); rintro e w9 ⟨rfl, hb⟩; have n0_ := Aside0.mk (below_step (by repeat (first | (with_reducible first | exact HB.out | apply below_alloc | apply pw_below_drewN | apply below_drew1) | exact HB.out)) hb); clear HB; have HB := n0_; clear n0_; (try clear hb); (try clear hb2); (try clear hk); (try clear hi)) | (go_at_call 9; (with_reducible refine (zoneinforef01_Width.calls a0 t252 _ A7.out).mono ?_); rintro e w10 ⟨rfl, hb⟩; have n0_ := Aside0.mk (below_step (by repeat (first | (with_reducible first | exact HB.out | apply below_alloc | apply pw_below_drewN | apply below_drew1) | exact HB.out)) hb); clear HB; have HB := n0_; clear n0_; (try clear hb); (try clear hb2); (try clear hk); (try clear hi))); go_upto_if 19 with (first | (go_at_call 8; (with_reducible refine (zoneinfolaw01_awake.calls k  true _ A5.out).mono ?_); rintro e w9 ⟨rfl, hb⟩; have n0_ := Aside0.mk (below_step (by repeat (first | (with_reducible first | exact HB.out | apply below_alloc | apply pw_below_drewN | apply below_drew1) | exact HB.out)) hb); clear HB; have HB := n0_; clear n0_; (try clear hb); (try clear hb2); (try clear hk); (try clear hi)) | (go_at_call 9; (with_reducible refine (zoneinforef01_Width.calls a0 t252 _ A7.out).mono ?_); rintro e w10 ⟨rfl, hb⟩; have n0_ := Aside0.mk (below_step (by repeat (first | (with_reducible first | exact HB.out | apply below_alloc | apply pw_below_drewN | apply below_drew1) | exact HB.out)) hb); clear HB; have HB := n0_; clear n0_; (try clear hb); (try clear hb2); (try clear hk); (try clear hi))))
    (try simp only [Act.put, List.setIfInBounds_toArray, List.set_cons_zero, List.set_cons_succ])
    go_cut [1, 2] (fun v1 v2 wc => ∃ (kq : Nat) (x1_7 : Int) (x2_7 : Int), v1 = .int .u64 x1_7 ∧ v2 = .int .u64 x2_7 ∧ Aside0 (zoneinfolaw01_BigendianOrder.j0 kq x1_7 x2_7 a3 t252 = some r) ∧ Aside0 (kq ≤ k) ∧ Aside0 (Below w.heap.size w wc))
    case first =>
      have H := HC8.out
      clear HC8
      by_cases c11 : t252 < 8
      · rw [if_pos c11] at H
        have c11b0 : decide (t252 < 8) = true := decide_eq_true c11
        clear c11
        (first | rw [c11b0] | (simp only [i64_w, i32_w]; rw [c11b0]) | skip)
        obtain ⟨ji12, hji12⟩ : ∃ j_ : Int, (IntKind.u64.wrap (8 * (IntKind.u64.wrap (t252)))) = j_ := ⟨_, rfl⟩
        replace H : (if 0 ≤ (ji12) then (if (shl .u64 1 (ji12)) = 0 then (none) else (zoneinfolaw01_BigendianOrder.j0 k (Int.tmod a1 (shl .u64 1 (ji12))) (Int.tmod a2 (shl .u64 1 (ji12))) a3 t252)) else (none)) = some r := by first | (rw [hji12] at H; exact H) | (simp only [hji12] at H ⊢; exact H)
        by_cases c13 : 0 ≤ (ji12)
        · rw [if_pos c13] at H
          have c13b0 := eq_true c13
          have c13b1 : decide (0 ≤ (ji12)) = true := decide_eq_true c13
          clear c13
          obtain ⟨ji14, hji14⟩ : ∃ j_ : Int, (shl .u64 1 (ji12)) = j_ := ⟨_, rfl⟩
          replace H : (if (ji14) = 0 then (none) else (zoneinfolaw01_BigendianOrder.j0 k (Int.tmod a1 (ji14)) (Int.tmod a2 (ji14)) a3 t252)) = some r := by first | (rw [hji14] at H; exact H) | (simp only [hji14] at H ⊢; exact H)
          have hji14_ : (IntKind.u64.wrap (1 * 2 ^ min (ji12).toNat 64)) = ji14 := hji14
          have hji14z : (ji12) ≤ 64 → (IntKind.u64.wrap (1 * 2 ^ (ji12).toNat)) = ji14 := shl_small hji14
          have hji14u : (IntKind.u64.wrap (2 ^ min (ji12).toNat 64)) = ji14 := by have h_ := hji14_; rw [Int.one_mul] at h_; exact h_
          have hji14v : (ji12) ≤ 64 → (IntKind.u64.wrap (2 ^ (ji12).toNat)) = ji14 := fun hle_ => by have h_ := hji14z hle_; rw [Int.one_mul] at h_; exact h_
          by_cases c15 : (ji14) = 0
          · rw [if_pos c15] at H
            exact absurd H (by simp)
          · rw [if_neg c15] at H
            have c15b0 : ((ji14) == 0) = false := beq_eq_false_iff_ne.mpr c15
            have c15b1 : ((ji14) != 0) = true := bne_iff_ne.mpr c15
            have c16b0 := eq_true (of_decide_eq_true (by first | (with_reducible assumption) | assumption) : 0 ≤ (ji12))
            have H' := Aside0.mk H
            clear H
            go_wp2
            repeat (go_quiet (fail); try go_wp2)
            go_meet
            case rel => exact ⟨_, (Int.tmod a1 (ji14)), (Int.tmod a2 (ji14)), (by first | rfl | (simp; done) | (simp only [← hji14] <;> (first | rfl | simp)) | (simp [*]; done)), (by first | rfl | (simp; done) | (simp only [← hji14] <;> (first | rfl | simp)) | (simp [*]; done)), H', ⟨by first | omega | exact Nat.le_refl _⟩, ⟨by repeat (first | (with_reducible first | exact HB.out | apply below_alloc | apply pw_below_drewN | apply below_drew1) | exact HB.out)⟩⟩
        · rw [if_neg c13] at H
          exact absurd H (by simp)
      · rw [if_neg c11] at H
        have c11b0 : decide (t252 < 8) = false := decide_eq_false c11
        clear c11
        (first | rw [c11b0] | (simp only [i64_w, i32_w]; rw [c11b0]) | skip)
        have H' := Aside0.mk H
        clear H
        go_wp2
        repeat (go_quiet (fail); try go_wp2)
        go_meet
        case rel => exact ⟨_, (a1), (a2), (by first | rfl | (simp; done) | (simp [*]; done)), (by first | rfl | (simp; done) | (simp [*]; done)), H', ⟨by first | omega | exact Nat.le_refl _⟩, ⟨by repeat (first | (with_reducible first | exact HB.out | apply below_alloc | apply pw_below_drewN | apply below_drew1) | exact HB.out)⟩⟩
    case rest =>
      clear HC8
      try clear c1
      try clear p2
      try clear c6
      try clear c7
      try clear c11
      try clear c11b0
      try clear c13
      try clear c13b0
      try clear c13b1
      try clear c15
      try clear c15b0
      try clear c15b1
      try clear c16
      try clear c16b0
      obtain ⟨kq, x1_7, x2_7, rfl, rfl, HA, HJ7, HB⟩ := hcut
      cases kq with
      | zero => exact absurd HA.out (by simp [zoneinfolaw01_BigendianOrder.j0])
      | succ kj7 =>
        have H := HA.out
        clear HA
        simp only [zoneinfolaw01_BigendianOrder.j0] at H
        replace H := Option.bind_eq_some_iff.mp H
        obtain ⟨t253, A170, H⟩ := H
        replace H : ((bigendian_Append.f kj7 ([] : List Int) t252 x2_7).bind fun t256 => (if (t253.length : Int) = t252 then (zoneinfolaw01_BigendianOrder.j1 kj7 x1_7 x2_7 a3 t252 t253 t256 ((t256.length : Int) != t252)) else (zoneinfolaw01_BigendianOrder.j1 kj7 x1_7 x2_7 a3 t252 t253 t256 true))) = some r := H
        have A17 := Aside0.mk A170
        clear A170
        replace H := Option.bind_eq_some_iff.mp H
        obtain ⟨t256, A180, H⟩ := H
        replace H : (if (t253.length : Int) = t252 then (zoneinfolaw01_BigendianOrder.j1 kj7 x1_7 x2_7 a3 t252 t253 t256 ((t256.length : Int) != t252)) else (zoneinfolaw01_BigendianOrder.j1 kj7 x1_7 x2_7 a3 t252 t253 t256 true)) = some r := H
        have A18 := Aside0.mk A180
        clear A180
        have HC19 := Aside0.mk H
        clear H
        go_upto_region 9 with (first | (go_at_call 15; refine calls_of_args (args' := #[.slice none ([] : List Int).length 0, .int .i64 t252, .int .u64 x1_7]) (by rfl) ?_; (with_reducible refine (bigendian_Append.calls kj7 _ _ ([] : List Int) t252 x1_7 t253 _ ?side1 ?side2 A17.out).mono ?_); (case side1 => exact Kd.C_nil _ _); (case side2 => exact Nat.le_refl _); rintro e w20 ⟨v254, rfl, ho0, hb⟩; have n0_ := Aside0.mk (Kd.R_lower ho0 (below_size (by repeat (first | (with_reducible first | exact HB.out | apply below_alloc | apply pw_below_drewN | apply below_drew1) | exact HB.out)))); have n1_ := Aside0.mk (below_step (by repeat (first | (with_reducible first | exact HB.out | apply below_alloc | apply pw_below_drewN | apply below_drew1) | exact HB.out)) hb); clear HB; have HO255 := n0_; have HB := n1_; clear n0_ n1_; (try clear hb); (try clear hb2); (try clear hk); (try clear hi); (try clear ho0)) | (go_at_call 15; refine calls_of_args (args' := #[.slice none ([] : List Int).length 0, .int .i64 t252, .int .u64 x2_7]) (by rfl) ?_; (with_reducible refine (bigendian_Append.calls kj7 _ _ ([] : List Int) t252 x2_7 t256 _ ?side1 ?side2 A18.out).mono ?_); (case side1 => exact Kd.C_nil _ _); (case side2 => exact Nat.le_refl _); rintro e w21 ⟨v257, rfl, ho0, hb⟩; have n0_ := Aside0.mk (Kd.R_elder' (by (with_reducible repeat (first | apply Kd.R_alloc | apply Kd.R_drewN | apply Kd.R_drew)); exact HO255.out) (Kd.R_base ho0) hb); have n1_ := Aside0.mk (Kd.R_lower (Kd.R_new' ho0 (Kd.R_lt (by (with_reducible repeat (first | apply Kd.R_alloc | apply Kd.R_drewN | apply Kd.R_drew)); exact HO255.out))) (below_size (by repeat (first | (with_reducible first | exact HB.out | apply below_alloc | apply pw_below_drewN | apply below_drew1) | exact HB.out)))); have n2_ := Aside0.mk (below_step (by repeat (first | (with_reducible first | exact HB.out | apply below_alloc | apply pw_below_drewN | apply below_drew1) | exact HB.out)) hb); clear HO255; clear HB; have HO255 := n0_; have HO258 := n1_; have HB := n2_; clear n0_ n1_ n2_; (try clear hb); (try clear hb2); (try clear hk); (try clear hi); (try clear ho0)))
        repeat (go_quiet (first | (go_at_call 15; refine calls_of_args (args' := #[.slice none ([] : List Int).length 0, .int .i64 t252, .int .u64 x1_7]) (by rfl) ?_; (with_reducible refine (bigendian_Append.calls kj7 _ _ ([] : List Int) t252 x1_7 t253 _ ?side1 ?side2 A17.out).mono ?_); (case side1 => exact Kd.C_nil _ _); (case side2 => exact Nat.le_refl _); rintro e w20 ⟨v254, rfl, ho0, hb⟩; have n0_ := Aside0.mk (Kd.R_lower ho0 (below_size (by repeat (first | (with_reducible first | exact HB.out | apply below_alloc | apply pw_below_drewN | apply below_drew1) | exact HB.out)))); have n1_ := Aside0.mk (below_step (by repeat (first | (with_reducible first | exact HB.out | apply below_alloc | apply pw_below_drewN | apply below_drew1) | exact HB.out)) hb); clear HB; have HO255 := n0_; have HB := n1_; clear n0_ n1_; (try clear hb); (try clear hb2); (try clear hk); (try clear hi); (try clear ho0)) | (go_at_call 15; refine calls_of_args (args' := #[.slice none ([] : List Int).length 0, .int .i64 t252, .int .u64 x2_7]) (by rfl) ?_; (with_reducible refine (bigendian_Append.calls kj7 _ _ ([] : List Int) t252 x2_7 t256 _ ?side1 ?side2 A18.out).mono ?_); (case side1 => exact Kd.C_nil _ _); (case side2 => exact Nat.le_refl _); rintro e w21 ⟨v257, rfl, ho0, hb⟩; have n0_ := Aside0.mk (Kd.R_elder' (by (with_reducible repeat (first | apply Kd.R_alloc | apply Kd.R_drewN | apply Kd.R_drew)); exact HO255.out) (Kd.R_base ho0) hb); have n1_ := Aside0.mk (Kd.R_lower (Kd.R_new' ho0 (Kd.R_lt (by (with_reducible repeat (first | apply Kd.R_alloc | apply Kd.R_drewN | apply Kd.R_drew)); exact HO255.out))) (below_size (by repeat (first | (with_reducible first | exact HB.out | apply below_alloc | apply pw_below_drewN | apply below_drew1) | exact HB.out)))); have n2_ := Aside0.mk (below_step (by repeat (first | (with_reducible first | exact HB.out | apply below_alloc | apply pw_below_drewN | apply below_drew1) | exact HB.out)) hb); clear HO255; clear HB; have HO255 := n0_; have HO258 := n1_; have HB := n2_; clear n0_ n1_ n2_; (try clear hb); (try clear hb2); (try clear hk); (try clear hi); (try clear ho0))); go_upto_region 9 with (first | (go_at_call 15; refine calls_of_args (args' := #[.slice none ([] : List Int).length 0, .int .i64 t252, .int .u64 x1_7]) (by rfl) ?_; (with_reducible refine (bigendian_Append.calls kj7 _ _ ([] : List Int) t252 x1_7 t253 _ ?side1 ?side2 A17.out).mono ?_); (case side1 => exact Kd.C_nil _ _); (case side2 => exact Nat.le_refl _); rintro e w20 ⟨v254, rfl, ho0, hb⟩; have n0_ := Aside0.mk (Kd.R_lower ho0 (below_size (by repeat (first | (with_reducible first | exact HB.out | apply below_alloc | apply pw_below_drewN | apply below_drew1) | exact HB.out)))); have n1_ := Aside0.mk (below_step (by repeat (first | (with_reducible first | exact HB.out | apply below_alloc | apply pw_below_drewN | apply below_drew1) | exact HB.out)) hb); clear HB; have HO255 := n0_; have HB := n1_; clear n0_ n1_; (try clear hb); (try clear hb2); (try clear hk); (try clear hi); (try clear ho0)) | (go_at_call 15; refine calls_of_args (args' := #[.slice none ([] : List Int).length 0, .int .i64 t252, .int .u64 x2_7]) (by rfl) ?_; (with_reducible refine (bigendian_Append.calls kj7 _ _ ([] : List Int) t252 x2_7 t256 _ ?side1 ?side2 A18.out).mono ?_); (case side1 => exact Kd.C_nil _ _); (case side2 => exact Nat.le_refl _); rintro e w21 ⟨v257, rfl, ho0, hb⟩; have n0_ := Aside0.mk (Kd.R_elder' (by (with_reducible repeat (first | apply Kd.R_alloc | apply Kd.R_drewN | apply Kd.R_drew)); exact HO255.out) (Kd.R_base ho0) hb); have n1_ := Aside0.mk (Kd.R_lower (Kd.R_new' ho0 (Kd.R_lt (by (with_reducible repeat (first | apply Kd.R_alloc | apply Kd.R_drewN | apply Kd.R_drew)); exact HO255.out))) (below_size (by repeat (first | (with_reducible first | exact HB.out | apply below_alloc | apply pw_below_drewN | apply below_drew1) | exact HB.out)))); have n2_ := Aside0.mk (below_step (by repeat (first | (with_reducible first | exact HB.out | apply below_alloc | apply pw_below_drewN | apply below_drew1) | exact HB.out)) hb); clear HO255; clear HB; have HO255 := n0_; have HO258 := n1_; have HB := n2_; clear n0_ n1_ n2_; (try clear hb); (try clear hb2); (try clear hk); (try clear hi); (try clear ho0))))
        (try simp only [Act.put, List.setIfInBounds_toArray, List.set_cons_zero, List.set_cons_succ])
        go_cut [47] (fun v47 wc => ∃ (kq : Nat) (x47_18 : Bool), v47 = .bool x47_18 ∧ Aside0 (zoneinfolaw01_BigendianOrder.j1 kq x1_7 x2_7 a3 t252 t253 t256 x47_18 = some r) ∧ Aside0 (kq ≤ kj7) ∧ Aside0 (Kd.R (Kd.int .u8) 5 wc w.heap.size (fun k_ => some k_ ≠ (v257 : Value).ownBlock) v254 t253) ∧ Aside0 (Kd.R (Kd.int .u8) 5 wc w.heap.size (fun k_ => some k_ ≠ (v254 : Value).ownBlock) v257 t256) ∧ Aside0 (Below w.heap.size w wc))
        case first =>
          have H := HC19.out
          clear HC19
          by_cases c22 : (t253.length : Int) = t252
          · rw [if_pos c22] at H
            have c22b0 : ((t253.length : Int) == t252) = true := beq_iff_eq.mpr c22
            have c22b1 : ((t253.length : Int) != t252) = false := bne_eq_false_iff_eq.mpr c22
            clear c22
            (first | rw [c22b0] | (simp only [i64_w, i32_w]; rw [c22b0]) | skip)
            have H' := Aside0.mk H
            clear H
            obtain ⟨Ao23, co23, eo23⟩ := Kd.R_slice HO255.out
            subst eo23
            obtain ⟨Ao24, co24, eo24⟩ := Kd.R_slice HO258.out
            subst eo24
            go_wp2
            repeat (go_quiet (fail); try go_wp2)
            go_meet
            case rel => exact ⟨_, (((t256.length : Int) != t252)), (by first | rfl | (simp; done) | (simp [*]; done)), H', ⟨by have := HJ7.out; first | omega | exact Nat.le_refl _⟩, ⟨by (with_reducible repeat (first | apply Kd.R_alloc | apply Kd.R_drewN | apply Kd.R_drew)); exact Kd.R_mono HO255.out (fun _ hk => hk.2)⟩, ⟨by (with_reducible repeat (first | apply Kd.R_alloc | apply Kd.R_drewN | apply Kd.R_drew)); exact Kd.R_mono HO258.out (fun _ hk => hk.2)⟩, ⟨by repeat (first | (with_reducible first | exact HB.out | apply below_alloc | apply pw_below_drewN | apply below_drew1) | exact HB.out)⟩⟩
          · rw [if_neg c22] at H
            have c22b0 : ((t253.length : Int) == t252) = false := beq_eq_false_iff_ne.mpr c22
            have c22b1 : ((t253.length : Int) != t252) = true := bne_iff_ne.mpr c22
            (first | rw [c22b0] | (simp only [i64_w, i32_w]; rw [c22b0]) | skip)
            have H' := Aside0.mk H
            clear H
            obtain ⟨Ao25, co25, eo25⟩ := Kd.R_slice HO255.out
            subst eo25
            go_wp2
            repeat (go_quiet (fail); try go_wp2)
            go_meet
            case rel => exact ⟨_, (true), (by first | rfl | (simp; done) | (simp [*]; done)), H', ⟨by have := HJ7.out; first | omega | exact Nat.le_refl _⟩, ⟨by (with_reducible repeat (first | apply Kd.R_alloc | apply Kd.R_drewN | apply Kd.R_drew)); exact Kd.R_mono HO255.out (fun _ hk => hk.2)⟩, ⟨by (with_reducible repeat (first | apply Kd.R_alloc | apply Kd.R_drewN | apply Kd.R_drew)); exact Kd.R_mono HO258.out (fun _ hk => hk.2)⟩, ⟨by repeat (first | (with_reducible first | exact HB.out | apply below_alloc | apply pw_below_drewN | apply below_drew1) | exact HB.out)⟩⟩
        case rest =>
          clear HC19
          try clear c1
          try clear c2
          try clear p2
          try clear c6
          try clear c7
          try clear c11
          try clear c11b0
          try clear c13
          try clear c13b0
          try clear c13b1
          try clear c15
          try clear c15b0
          try clear c15b1
          try clear c16
          try clear c16b0
          try clear c22
          try clear c22b0
          try clear c22b1
          try clear p2
          obtain ⟨kq, x47_18, rfl, HA, HJ18, HO_10, HO_11, HB⟩ := hcut
          cases kq with
          | zero => exact absurd HA.out (by simp [zoneinfolaw01_BigendianOrder.j1])
          | succ kj18 =>
            have H := HA.out
            clear HA
            simp only [zoneinfolaw01_BigendianOrder.j1] at H
            by_cases c26 : x47_18 = true
            · subst c26
              have H1 : (some false) = some r := by rw [if_pos rfl] at H; exact H
              clear H
              have H := H1
              clear H1
              obtain rfl := Option.some.inj H
              go_wp2
              repeat (go_quiet (fail); try go_wp2)
              go_ret
              exact ⟨by first | rfl | (simp [errW_none, errW_some] <;> rfl) | (simp [*, errW_none, errW_some] <;> rfl), by repeat (first | (with_reducible first | exact HB.out | apply below_alloc | apply pw_below_drewN | apply below_drew1) | exact HB.out)⟩
            · replace c26 := Bool.eq_false_iff.mpr c26
              subst c26
              have H1 : (zoneinfolaw01_BigendianOrder.l0 kj18 x1_7 x2_7 a3 t253 t256 false (wrap64 (t252 - 1))) = some r := by rw [if_neg (show ¬ (false = true) by decide)] at H; exact H
              clear H
              have H := H1
              clear H1
              have H' := Aside0.mk H
              clear H
              go_wp2
              repeat (go_quiet (fail); try go_wp2)
              go_loopg [12, 13] kj18 (fun kq v12 v13 w' => ∃ (x12_3 : Bool) (x13_3 : Int), v12 = .bool x12_3 ∧ v13 = .int .i64 x13_3 ∧ Aside0 (zoneinfolaw01_BigendianOrder.l0 kq x1_7 x2_7 a3 t253 t256 x12_3 x13_3 = some r) ∧ Aside0 (kq ≤ kj18) ∧ Aside0 (Kd.R (Kd.int .u8) 5 w' w.heap.size (fun k_ => some k_ ≠ (v257 : Value).ownBlock) v254 t253) ∧ Aside0 (Kd.R (Kd.int .u8) 5 w' w.heap.size (fun k_ => some k_ ≠ (v254 : Value).ownBlock) v257 t256) ∧ Aside0 (Below w.heap.size w w'))
              case atStart => exact ⟨(false), (wrap64 (t252 - 1)), (by first | rfl | (simp; done) | (simp [*]; done)), (by first | rfl | (simp; done) | (simp [*]; done)), H', ⟨Nat.le_refl _⟩, ⟨by (with_reducible repeat (first | apply Kd.R_alloc | apply Kd.R_drewN | apply Kd.R_drew)); exact HO_10.out⟩, ⟨by (with_reducible repeat (first | apply Kd.R_alloc | apply Kd.R_drewN | apply Kd.R_drew)); exact HO_11.out⟩, ⟨by repeat (first | (with_reducible first | exact HB.out | apply below_alloc | apply pw_below_drewN | apply below_drew1) | exact HB.out)⟩⟩
              case round =>
                clear H'
                try clear c1
                try clear c2
                try clear p2
                try clear c6
                try clear p6
                try clear c7
                try clear c11
                try clear c11b0
                try clear c13
                try clear c13b0
                try clear c13b1
                try clear c15
                try clear c15b0
                try clear c15b1
                try clear c16
                try clear c16b0
                try clear c22
                try clear c22b0
                try clear c22b1
                try clear c26
                try clear p2
                obtain ⟨x12_3, x13_3, rfl, rfl, HA, HK3, HO_10, HO_11, HB⟩ := hrel
                cases gk with
                | zero => exact absurd HA.out (by simp [zoneinfolaw01_BigendianOrder.l0])
                | succ k3 =>
                  have H := HA.out
                  clear HA
                  simp only [zoneinfolaw01_BigendianOrder.l0] at H
                  by_cases c27 : x13_3 ≥ 0
                  · rw [if_pos c27] at H
                    have c27b0 : decide (0 ≤ x13_3) = true := decide_eq_true c27
                    clear c27
                    by_cases c28 : 0 ≤ x13_3
                    · rw [if_pos c28] at H
                      have c28b0 : decide (0 ≤ x13_3) = true := decide_eq_true c28
                      clear c28
                      by_cases c29 : x13_3 < (t253.length : Int)
                      · rw [if_pos c29] at H
                        have c29b0 : decide (x13_3 < (t253.length : Int)) = true := decide_eq_true c29
                        clear c29
                        by_cases c30 : x13_3 < (t256.length : Int)
                        · rw [if_pos c30] at H
                          have c30b0 : decide (x13_3 < (t256.length : Int)) = true := decide_eq_true c30
                          clear c30
                          by_cases c31 : (rd t253 x13_3) = (rd t256 x13_3)
                          · rw [if_pos c31] at H
                            have c31b0 : ((rd t253 x13_3) == (rd t256 x13_3)) = true := beq_iff_eq.mpr c31
                            have c31b1 : ((rd t253 x13_3) != (rd t256 x13_3)) = false := bne_eq_false_iff_eq.mpr c31
                            clear c31
                            have H' := Aside0.mk H
                            clear H
                            obtain ⟨Ao32, co32, eo32⟩ := Kd.R_slice HO_10.out
                            subst eo32
                            have p259 : 0 ≤ (x13_3 : Int) := of_decide_eq_true (by first | (with_reducible assumption) | assumption)
                            have q259 : x13_3 < (t253.length : Int) := of_decide_eq_true (by first | (with_reducible assumption) | assumption)
                            obtain ⟨ad259, e259, hx259_0⟩ := Kd.at_int (Kd.R_reads' HO_10.out).2.2 x13_3 p259 q259
                            cases e259
                            replace p259 := eq_true p259
                            replace q259 := eq_true q259
                            obtain ⟨Ao33, co33, eo33⟩ := Kd.R_slice HO_11.out
                            subst eo33
                            have p260 : 0 ≤ (x13_3 : Int) := of_decide_eq_true (by first | (with_reducible assumption) | assumption)
                            have q260 : x13_3 < (t256.length : Int) := of_decide_eq_true (by first | (with_reducible assumption) | assumption)
                            obtain ⟨ad260, e260, hx260_0⟩ := Kd.at_int (Kd.R_reads' HO_11.out).2.2 x13_3 p260 q260
                            cases e260
                            replace p260 := eq_true p260
                            replace q260 := eq_true q260
                            go_wp2
                            repeat (go_quiet (fail); try go_wp2)
                            go_roundg k3
                            case measure => have := HJ7.out; have := HJ18.out; have := HK3.out; omega
                            case rel => exact ⟨(x12_3), (wrap64 (x13_3 - 1)), (by first | rfl | (simp; done) | (simp [*]; done)), (by first | rfl | (simp; done) | (simp [*]; done)), H', ⟨by have := HJ7.out; have := HJ18.out; have := HK3.out; omega⟩, ⟨by (with_reducible repeat (first | apply Kd.R_alloc | apply Kd.R_drewN | apply Kd.R_drew)); exact HO_10.out⟩, ⟨by (with_reducible repeat (first | apply Kd.R_alloc | apply Kd.R_drewN | apply Kd.R_drew)); exact HO_11.out⟩, ⟨by repeat (first | (with_reducible first | exact HB.out | apply below_alloc | apply pw_below_drewN | apply below_drew1) | exact HB.out)⟩⟩
                          · rw [if_neg c31] at H
                            have c31b0 : ((rd t253 x13_3) == (rd t256 x13_3)) = false := beq_eq_false_iff_ne.mpr c31
                            have c31b1 : ((rd t253 x13_3) != (rd t256 x13_3)) = true := bne_iff_ne.mpr c31
                            have H' := Aside0.mk H
                            clear H
                            obtain ⟨Ao34, co34, eo34⟩ := Kd.R_slice HO_10.out
                            subst eo34
                            have p259 : 0 ≤ (x13_3 : Int) := of_decide_eq_true (by first | (with_reducible assumption) | assumption)
                            have q259 : x13_3 < (t253.length : Int) := of_decide_eq_true (by first | (with_reducible assumption) | assumption)
                            obtain ⟨ad259, e259, hx259_0⟩ := Kd.at_int (Kd.R_reads' HO_10.out).2.2 x13_3 p259 q259
                            cases e259
                            replace p259 := eq_true p259
                            replace q259 := eq_true q259
                            obtain ⟨Ao35, co35, eo35⟩ := Kd.R_slice HO_11.out
                            subst eo35
                            have p260 : 0 ≤ (x13_3 : Int) := of_decide_eq_true (by first | (with_reducible assumption) | assumption)
                            have q260 : x13_3 < (t256.length : Int) := of_decide_eq_true (by first | (with_reducible assumption) | assumption)
                            obtain ⟨ad260, e260, hx260_0⟩ := Kd.at_int (Kd.R_reads' HO_11.out).2.2 x13_3 p260 q260
                            cases e260
                            replace p260 := eq_true p260
                            replace q260 := eq_true q260
                            have p261 : 0 ≤ (x13_3 : Int) := of_decide_eq_true (by first | (with_reducible assumption) | assumption)
                            have q261 : x13_3 < (t253.length : Int) := of_decide_eq_true (by first | (with_reducible assumption) | assumption)
                            obtain ⟨ad261, e261, hx261_0⟩ := Kd.at_int (Kd.R_reads' HO_10.out).2.2 x13_3 p261 q261
                            obtain rfl : ad259 = ad261 := (by injection e261)
                            replace p261 := eq_true p261
                            replace q261 := eq_true q261
                            have p262 : 0 ≤ (x13_3 : Int) := of_decide_eq_true (by first | (with_reducible assumption) | assumption)
                            have q262 : x13_3 < (t256.length : Int) := of_decide_eq_true (by first | (with_reducible assumption) | assumption)
                            obtain ⟨ad262, e262, hx262_0⟩ := Kd.at_int (Kd.R_reads' HO_11.out).2.2 x13_3 p262 q262
                            obtain rfl : ad260 = ad262 := (by injection e262)
                            replace p262 := eq_true p262
                            replace q262 := eq_true q262
                            go_wp2
                            repeat (go_quiet (fail); try go_wp2)
                            go_roundg k3
                            case measure => have := HJ7.out; have := HJ18.out; have := HK3.out; omega
                            case rel => exact ⟨(decide ((rd t253 x13_3) < (rd t256 x13_3))), (wrap64 (x13_3 - 1)), (by first | rfl | (simp; done) | (simp [*]; done)), (by first | rfl | (simp; done) | (simp [*]; done)), H', ⟨by have := HJ7.out; have := HJ18.out; have := HK3.out; omega⟩, ⟨by (with_reducible repeat (first | apply Kd.R_alloc | apply Kd.R_drewN | apply Kd.R_drew)); exact HO_10.out⟩, ⟨by (with_reducible repeat (first | apply Kd.R_alloc | apply Kd.R_drewN | apply Kd.R_drew)); exact HO_11.out⟩, ⟨by repeat (first | (with_reducible first | exact HB.out | apply below_alloc | apply pw_below_drewN | apply below_drew1) | exact HB.out)⟩⟩
                        · rw [if_neg c30] at H
                          exact absurd H (by simp)
                      · rw [if_neg c29] at H
                        exact absurd H (by simp)
                    · rw [if_neg c28] at H
                      exact absurd H (by simp)
                  · rw [if_neg c27] at H
                    have c27b0 : decide (0 ≤ x13_3) = false := decide_eq_false c27
                    clear c27
                    by_cases c36 : (x12_3 == (decide (x1_7 < x2_7))) = true
                    · rw [if_pos c36] at H
                      have c36b0 : (x12_3 == (decide (x1_7 < x2_7))) = true := c36
                      (try (have c36b1 : decide (x12_3 = (decide (x1_7 < x2_7))) = true := by simpa using c36))
                      (try (have c36b2 : (x12_3 == (decide (x1_7 < x2_7))) = true := by simpa using c36))
                      clear c36
                      replace H := Option.bind_eq_some_iff.mp H
                      obtain ⟨t263, A370, H⟩ := H
                      replace H : (if t263 = true then ((bigendian_Fits.f a3 4).bind fun t264 => (if t264 = true then ((bigendian_Fits.f a3 8).bind fun t265 => (if t265 = true then (some t265) else (some false))) else (some false))) else ((bigendian_Fits.f a3 4).bind fun t266 => (if t266 = true then ((bigendian_Fits.f a3 8).bind fun t267 => (if t267 = true then (some t267) else (some false))) else ((bigendian_Fits.f a3 8).bind fun t268 => (some t268))))) = some r := H
                      have A37 := Aside0.mk A370
                      clear A370
                      by_cases c38 : t263 = true
                      · subst c38
                        have H1 : ((bigendian_Fits.f a3 4).bind fun t264 => (if t264 = true then ((bigendian_Fits.f a3 8).bind fun t265 => (if t265 = true then (some t265) else (some false))) else (some false))) = some r := by rw [if_pos rfl] at H; exact H
                        clear H
                        have H := H1
                        clear H1
                        replace H := Option.bind_eq_some_iff.mp H
                        obtain ⟨t264, A390, H⟩ := H
                        replace H : (if t264 = true then ((bigendian_Fits.f a3 8).bind fun t265 => (if t265 = true then (some t265) else (some false))) else (some false)) = some r := H
                        have A39 := Aside0.mk A390
                        clear A390
                        by_cases c40 : t264 = true
                        · subst c40
                          have H1 : ((bigendian_Fits.f a3 8).bind fun t265 => (if t265 = true then (some t265) else (some false))) = some r := by rw [if_pos rfl] at H; exact H
                          clear H
                          have H := H1
                          clear H1
                          replace H := Option.bind_eq_some_iff.mp H
                          obtain ⟨t265, A410, H⟩ := H
                          replace H : (if t265 = true then (some t265) else (some false)) = some r := H
                          have A41 := Aside0.mk A410
                          clear A410
                          by_cases c42 : t265 = true
                          · subst c42
                            have H1 : (some true) = some r := by rw [if_pos rfl] at H; exact H
                            clear H
                            have H := H1
                            clear H1
                            obtain rfl := Option.some.inj H
                            go_wp2_with (first | (go_at_call 17; (with_reducible refine (bigendian_Fits.calls a3 1 true _ A37.out).mono ?_); rintro e w' ⟨rfl, ⟨nd, rfl⟩⟩; (try first | exact ⟨rfl, _, World.drewN_drewN _ _ _⟩ | exact ⟨rfl, _, Eq.trans (World.drewN_drewN _ _ _) (congrArg (World.drewN _) (Nat.add_assoc _ _ _))⟩)) | (go_at_call 17; (with_reducible refine (bigendian_Fits.calls a3 4 true _ A39.out).mono ?_); rintro e w' ⟨rfl, ⟨nd, rfl⟩⟩; (try first | exact ⟨rfl, _, World.drewN_drewN _ _ _⟩ | exact ⟨rfl, _, Eq.trans (World.drewN_drewN _ _ _) (congrArg (World.drewN _) (Nat.add_assoc _ _ _))⟩)) | (go_at_call 17; (with_reducible refine (bigendian_Fits.calls a3 8 true _ A41.out).mono ?_); rintro e w' ⟨rfl, ⟨nd, rfl⟩⟩; (try first | exact ⟨rfl, _, World.drewN_drewN _ _ _⟩ | exact ⟨rfl, _, Eq.trans (World.drewN_drewN _ _ _) (congrArg (World.drewN _) (Nat.add_assoc _ _ _))⟩)))
                            repeat (go_quiet (first | (go_at_call 17; (with_reducible refine (bigendian_Fits.calls a3 1 true _ A37.out).mono ?_); rintro e w' ⟨rfl, ⟨nd, rfl⟩⟩; (try first | exact ⟨rfl, _, World.drewN_drewN _ _ _⟩ | exact ⟨rfl, _, Eq.trans (World.drewN_drewN _ _ _) (congrArg (World.drewN _) (Nat.add_assoc _ _ _))⟩)) | (go_at_call 17; (with_reducible refine (bigendian_Fits.calls a3 4 true _ A39.out).mono ?_); rintro e w' ⟨rfl, ⟨nd, rfl⟩⟩; (try first | exact ⟨rfl, _, World.drewN_drewN _ _ _⟩ | exact ⟨rfl, _, Eq.trans (World.drewN_drewN _ _ _) (congrArg (World.drewN _) (Nat.add_assoc _ _ _))⟩)) | (go_at_call 17; (with_reducible refine (bigendian_Fits.calls a3 8 true _ A41.out).mono ?_); rintro e w' ⟨rfl, ⟨nd, rfl⟩⟩; (try first | exact ⟨rfl, _, World.drewN_drewN _ _ _⟩ | exact ⟨rfl, _, Eq.trans (World.drewN_drewN _ _ _) (congrArg (World.drewN _) (Nat.add_assoc _ _ _))⟩))); try go_wp2_with (first | (go_at_call 17; (with_reducible refine (bigendian_Fits.calls a3 1 true _ A37.out).mono ?_); rintro e w' ⟨rfl, ⟨nd, rfl⟩⟩; (try first | exact ⟨rfl, _, World.drewN_drewN _ _ _⟩ | exact ⟨rfl, _, Eq.trans (World.drewN_drewN _ _ _) (congrArg (World.drewN _) (Nat.add_assoc _ _ _))⟩)) | (go_at_call 17; (with_reducible refine (bigendian_Fits.calls a3 4 true _ A39.out).mono ?_); rintro e w' ⟨rfl, ⟨nd, rfl⟩⟩; (try first | exact ⟨rfl, _, World.drewN_drewN _ _ _⟩ | exact ⟨rfl, _, Eq.trans (World.drewN_drewN _ _ _) (congrArg (World.drewN _) (Nat.add_assoc _ _ _))⟩)) | (go_at_call 17; (with_reducible refine (bigendian_Fits.calls a3 8 true _ A41.out).mono ?_); rintro e w' ⟨rfl, ⟨nd, rfl⟩⟩; (try first | exact ⟨rfl, _, World.drewN_drewN _ _ _⟩ | exact ⟨rfl, _, Eq.trans (World.drewN_drewN _ _ _) (congrArg (World.drewN _) (Nat.add_assoc _ _ _))⟩))))
                            go_ret
                            exact ⟨by first | rfl | (simp [errW_none, errW_some] <;> rfl) | (simp [*, errW_none, errW_some] <;> rfl), by repeat (first | (with_reducible first | exact HB.out | apply below_alloc | apply pw_below_drewN | apply below_drew1) | exact HB.out)⟩
                          · replace c42 := Bool.eq_false_iff.mpr c42
                            subst c42
                            have H1 : (some false) = some r := by rw [if_neg (show ¬ (false = true) by decide)] at H; exact H
                            clear H
                            have H := H1
                            clear H1
                            obtain rfl := Option.some.inj H
                            go_wp2_with (first | (go_at_call 17; (with_reducible refine (bigendian_Fits.calls a3 1 true _ A37.out).mono ?_); rintro e w' ⟨rfl, ⟨nd, rfl⟩⟩; (try first | exact ⟨rfl, _, World.drewN_drewN _ _ _⟩ | exact ⟨rfl, _, Eq.trans (World.drewN_drewN _ _ _) (congrArg (World.drewN _) (Nat.add_assoc _ _ _))⟩)) | (go_at_call 17; (with_reducible refine (bigendian_Fits.calls a3 4 true _ A39.out).mono ?_); rintro e w' ⟨rfl, ⟨nd, rfl⟩⟩; (try first | exact ⟨rfl, _, World.drewN_drewN _ _ _⟩ | exact ⟨rfl, _, Eq.trans (World.drewN_drewN _ _ _) (congrArg (World.drewN _) (Nat.add_assoc _ _ _))⟩)) | (go_at_call 17; (with_reducible refine (bigendian_Fits.calls a3 8 false _ A41.out).mono ?_); rintro e w' ⟨rfl, ⟨nd, rfl⟩⟩; (try first | exact ⟨rfl, _, World.drewN_drewN _ _ _⟩ | exact ⟨rfl, _, Eq.trans (World.drewN_drewN _ _ _) (congrArg (World.drewN _) (Nat.add_assoc _ _ _))⟩)))
                            repeat (go_quiet (first | (go_at_call 17; (with_reducible refine (bigendian_Fits.calls a3 1 true _ A37.out).mono ?_); rintro e w' ⟨rfl, ⟨nd, rfl⟩⟩; (try first | exact ⟨rfl, _, World.drewN_drewN _ _ _⟩ | exact ⟨rfl, _, Eq.trans (World.drewN_drewN _ _ _) (congrArg (World.drewN _) (Nat.add_assoc _ _ _))⟩)) | (go_at_call 17; (with_reducible refine (bigendian_Fits.calls a3 4 true _ A39.out).mono ?_); rintro e w' ⟨rfl, ⟨nd, rfl⟩⟩; (try first | exact ⟨rfl, _, World.drewN_drewN _ _ _⟩ | exact ⟨rfl, _, Eq.trans (World.drewN_drewN _ _ _) (congrArg (World.drewN _) (Nat.add_assoc _ _ _))⟩)) | (go_at_call 17; (with_reducible refine (bigendian_Fits.calls a3 8 false _ A41.out).mono ?_); rintro e w' ⟨rfl, ⟨nd, rfl⟩⟩; (try first | exact ⟨rfl, _, World.drewN_drewN _ _ _⟩ | exact ⟨rfl, _, Eq.trans (World.drewN_drewN _ _ _) (congrArg (World.drewN _) (Nat.add_assoc _ _ _))⟩))); try go_wp2_with (first | (go_at_call 17; (with_reducible refine (bigendian_Fits.calls a3 1 true _ A37.out).mono ?_); rintro e w' ⟨rfl, ⟨nd, rfl⟩⟩; (try first | exact ⟨rfl, _, World.drewN_drewN _ _ _⟩ | exact ⟨rfl, _, Eq.trans (World.drewN_drewN _ _ _) (congrArg (World.drewN _) (Nat.add_assoc _ _ _))⟩)) | (go_at_call 17; (with_reducible refine (bigendian_Fits.calls a3 4 true _ A39.out).mono ?_); rintro e w' ⟨rfl, ⟨nd, rfl⟩⟩; (try first | exact ⟨rfl, _, World.drewN_drewN _ _ _⟩ | exact ⟨rfl, _, Eq.trans (World.drewN_drewN _ _ _) (congrArg (World.drewN _) (Nat.add_assoc _ _ _))⟩)) | (go_at_call 17; (with_reducible refine (bigendian_Fits.calls a3 8 false _ A41.out).mono ?_); rintro e w' ⟨rfl, ⟨nd, rfl⟩⟩; (try first | exact ⟨rfl, _, World.drewN_drewN _ _ _⟩ | exact ⟨rfl, _, Eq.trans (World.drewN_drewN _ _ _) (congrArg (World.drewN _) (Nat.add_assoc _ _ _))⟩))))
                            go_ret
                            exact ⟨by first | rfl | (simp [errW_none, errW_some] <;> rfl) | (simp [*, errW_none, errW_some] <;> rfl), by repeat (first | (with_reducible first | exact HB.out | apply below_alloc | apply pw_below_drewN | apply below_drew1) | exact HB.out)⟩
                        · replace c40 := Bool.eq_false_iff.mpr c40
                          subst c40
                          have H1 : (some false) = some r := by rw [if_neg (show ¬ (false = true) by decide)] at H; exact H
                          clear H
                          have H := H1
                          clear H1
                          obtain rfl := Option.some.inj H
                          go_wp2_with (first | (go_at_call 17; (with_reducible refine (bigendian_Fits.calls a3 1 true _ A37.out).mono ?_); rintro e w' ⟨rfl, ⟨nd, rfl⟩⟩; (try first | exact ⟨rfl, _, World.drewN_drewN _ _ _⟩ | exact ⟨rfl, _, Eq.trans (World.drewN_drewN _ _ _) (congrArg (World.drewN _) (Nat.add_assoc _ _ _))⟩)) | (go_at_call 17; (with_reducible refine (bigendian_Fits.calls a3 4 false _ A39.out).mono ?_); rintro e w' ⟨rfl, ⟨nd, rfl⟩⟩; (try first | exact ⟨rfl, _, World.drewN_drewN _ _ _⟩ | exact ⟨rfl, _, Eq.trans (World.drewN_drewN _ _ _) (congrArg (World.drewN _) (Nat.add_assoc _ _ _))⟩)))
                          repeat (go_quiet (first | (go_at_call 17; (with_reducible refine (bigendian_Fits.calls a3 1 true _ A37.out).mono ?_); rintro e w' ⟨rfl, ⟨nd, rfl⟩⟩; (try first | exact ⟨rfl, _, World.drewN_drewN _ _ _⟩ | exact ⟨rfl, _, Eq.trans (World.drewN_drewN _ _ _) (congrArg (World.drewN _) (Nat.add_assoc _ _ _))⟩)) | (go_at_call 17; (with_reducible refine (bigendian_Fits.calls a3 4 false _ A39.out).mono ?_); rintro e w' ⟨rfl, ⟨nd, rfl⟩⟩; (try first | exact ⟨rfl, _, World.drewN_drewN _ _ _⟩ | exact ⟨rfl, _, Eq.trans (World.drewN_drewN _ _ _) (congrArg (World.drewN _) (Nat.add_assoc _ _ _))⟩))); try go_wp2_with (first | (go_at_call 17; (with_reducible refine (bigendian_Fits.calls a3 1 true _ A37.out).mono ?_); rintro e w' ⟨rfl, ⟨nd, rfl⟩⟩; (try first | exact ⟨rfl, _, World.drewN_drewN _ _ _⟩ | exact ⟨rfl, _, Eq.trans (World.drewN_drewN _ _ _) (congrArg (World.drewN _) (Nat.add_assoc _ _ _))⟩)) | (go_at_call 17; (with_reducible refine (bigendian_Fits.calls a3 4 false _ A39.out).mono ?_); rintro e w' ⟨rfl, ⟨nd, rfl⟩⟩; (try first | exact ⟨rfl, _, World.drewN_drewN _ _ _⟩ | exact ⟨rfl, _, Eq.trans (World.drewN_drewN _ _ _) (congrArg (World.drewN _) (Nat.add_assoc _ _ _))⟩))))
                          go_ret
                          exact ⟨by first | rfl | (simp [errW_none, errW_some] <;> rfl) | (simp [*, errW_none, errW_some] <;> rfl), by repeat (first | (with_reducible first | exact HB.out | apply below_alloc | apply pw_below_drewN | apply below_drew1) | exact HB.out)⟩
                      · replace c38 := Bool.eq_false_iff.mpr c38
                        subst c38
                        have H1 : ((bigendian_Fits.f a3 4).bind fun t266 => (if t266 = true then ((bigendian_Fits.f a3 8).bind fun t267 => (if t267 = true then (some t267) else (some false))) else ((bigendian_Fits.f a3 8).bind fun t268 => (some t268)))) = some r := by rw [if_neg (show ¬ (false = true) by decide)] at H; exact H
                        clear H
                        have H := H1
                        clear H1
                        replace H := Option.bind_eq_some_iff.mp H
                        obtain ⟨t266, A430, H⟩ := H
                        replace H : (if t266 = true then ((bigendian_Fits.f a3 8).bind fun t267 => (if t267 = true then (some t267) else (some false))) else ((bigendian_Fits.f a3 8).bind fun t268 => (some t268))) = some r := H
                        have A43 := Aside0.mk A430
                        clear A430
                        by_cases c44 : t266 = true
                        · subst c44
                          have H1 : ((bigendian_Fits.f a3 8).bind fun t267 => (if t267 = true then (some t267) else (some false))) = some r := by rw [if_pos rfl] at H; exact H
                          clear H
                          have H := H1
                          clear H1
                          replace H := Option.bind_eq_some_iff.mp H
                          obtain ⟨t267, A450, H⟩ := H
                          replace H : (if t267 = true then (some t267) else (some false)) = some r := H
                          have A45 := Aside0.mk A450
                          clear A450
                          by_cases c46 : t267 = true
                          · subst c46
                            have H1 : (some true) = some r := by rw [if_pos rfl] at H; exact H
                            clear H
                            have H := H1
                            clear H1
                            obtain rfl := Option.some.inj H
                            go_wp2_with (first | (go_at_call 17; (with_reducible refine (bigendian_Fits.calls a3 1 false _ A37.out).mono ?_); rintro e w' ⟨rfl, ⟨nd, rfl⟩⟩; (try first | exact ⟨rfl, _, World.drewN_drewN _ _ _⟩ | exact ⟨rfl, _, Eq.trans (World.drewN_drewN _ _ _) (congrArg (World.drewN _) (Nat.add_assoc _ _ _))⟩)) | (go_at_call 17; (with_reducible refine (bigendian_Fits.calls a3 4 true _ A43.out).mono ?_); rintro e w' ⟨rfl, ⟨nd, rfl⟩⟩; (try first | exact ⟨rfl, _, World.drewN_drewN _ _ _⟩ | exact ⟨rfl, _, Eq.trans (World.drewN_drewN _ _ _) (congrArg (World.drewN _) (Nat.add_assoc _ _ _))⟩)) | (go_at_call 17; (with_reducible refine (bigendian_Fits.calls a3 8 true _ A45.out).mono ?_); rintro e w' ⟨rfl, ⟨nd, rfl⟩⟩; (try first | exact ⟨rfl, _, World.drewN_drewN _ _ _⟩ | exact ⟨rfl, _, Eq.trans (World.drewN_drewN _ _ _) (congrArg (World.drewN _) (Nat.add_assoc _ _ _))⟩)))
                            repeat (go_quiet (first | (go_at_call 17; (with_reducible refine (bigendian_Fits.calls a3 1 false _ A37.out).mono ?_); rintro e w' ⟨rfl, ⟨nd, rfl⟩⟩; (try first | exact ⟨rfl, _, World.drewN_drewN _ _ _⟩ | exact ⟨rfl, _, Eq.trans (World.drewN_drewN _ _ _) (congrArg (World.drewN _) (Nat.add_assoc _ _ _))⟩)) | (go_at_call 17; (with_reducible refine (bigendian_Fits.calls a3 4 true _ A43.out).mono ?_); rintro e w' ⟨rfl, ⟨nd, rfl⟩⟩; (try first | exact ⟨rfl, _, World.drewN_drewN _ _ _⟩ | exact ⟨rfl, _, Eq.trans (World.drewN_drewN _ _ _) (congrArg (World.drewN _) (Nat.add_assoc _ _ _))⟩)) | (go_at_call 17; (with_reducible refine (bigendian_Fits.calls a3 8 true _ A45.out).mono ?_); rintro e w' ⟨rfl, ⟨nd, rfl⟩⟩; (try first | exact ⟨rfl, _, World.drewN_drewN _ _ _⟩ | exact ⟨rfl, _, Eq.trans (World.drewN_drewN _ _ _) (congrArg (World.drewN _) (Nat.add_assoc _ _ _))⟩))); try go_wp2_with (first | (go_at_call 17; (with_reducible refine (bigendian_Fits.calls a3 1 false _ A37.out).mono ?_); rintro e w' ⟨rfl, ⟨nd, rfl⟩⟩; (try first | exact ⟨rfl, _, World.drewN_drewN _ _ _⟩ | exact ⟨rfl, _, Eq.trans (World.drewN_drewN _ _ _) (congrArg (World.drewN _) (Nat.add_assoc _ _ _))⟩)) | (go_at_call 17; (with_reducible refine (bigendian_Fits.calls a3 4 true _ A43.out).mono ?_); rintro e w' ⟨rfl, ⟨nd, rfl⟩⟩; (try first | exact ⟨rfl, _, World.drewN_drewN _ _ _⟩ | exact ⟨rfl, _, Eq.trans (World.drewN_drewN _ _ _) (congrArg (World.drewN _) (Nat.add_assoc _ _ _))⟩)) | (go_at_call 17; (with_reducible refine (bigendian_Fits.calls a3 8 true _ A45.out).mono ?_); rintro e w' ⟨rfl, ⟨nd, rfl⟩⟩; (try first | exact ⟨rfl, _, World.drewN_drewN _ _ _⟩ | exact ⟨rfl, _, Eq.trans (World.drewN_drewN _ _ _) (congrArg (World.drewN _) (Nat.add_assoc _ _ _))⟩))))
                            go_ret
                            exact ⟨by first | rfl | (simp [errW_none, errW_some] <;> rfl) | (simp [*, errW_none, errW_some] <;> rfl), by repeat (first | (with_reducible first | exact HB.out | apply below_alloc | apply pw_below_drewN | apply below_drew1) | exact HB.out)⟩
                          · replace c46 := Bool.eq_false_iff.mpr c46
                            subst c46
                            have H1 : (some false) = some r := by rw [if_neg (show ¬ (false = true) by decide)] at H; exact H
                            clear H
                            have H := H1
                            clear H1
                            obtain rfl := Option.some.inj H
                            go_wp2_with (first | (go_at_call 17; (with_reducible refine (bigendian_Fits.calls a3 1 false _ A37.out).mono ?_); rintro e w' ⟨rfl, ⟨nd, rfl⟩⟩; (try first | exact ⟨rfl, _, World.drewN_drewN _ _ _⟩ | exact ⟨rfl, _, Eq.trans (World.drewN_drewN _ _ _) (congrArg (World.drewN _) (Nat.add_assoc _ _ _))⟩)) | (go_at_call 17; (with_reducible refine (bigendian_Fits.calls a3 4 true _ A43.out).mono ?_); rintro e w' ⟨rfl, ⟨nd, rfl⟩⟩; (try first | exact ⟨rfl, _, World.drewN_drewN _ _ _⟩ | exact ⟨rfl, _, Eq.trans (World.drewN_drewN _ _ _) (congrArg (World.drewN _) (Nat.add_assoc _ _ _))⟩)) | (go_at_call 17; (with_reducible refine (bigendian_Fits.calls a3 8 false _ A45.out).mono ?_); rintro e w' ⟨rfl, ⟨nd, rfl⟩⟩; (try first | exact ⟨rfl, _, World.drewN_drewN _ _ _⟩ | exact ⟨rfl, _, Eq.trans (World.drewN_drewN _ _ _) (congrArg (World.drewN _) (Nat.add_assoc _ _ _))⟩)))
                            repeat (go_quiet (first | (go_at_call 17; (with_reducible refine (bigendian_Fits.calls a3 1 false _ A37.out).mono ?_); rintro e w' ⟨rfl, ⟨nd, rfl⟩⟩; (try first | exact ⟨rfl, _, World.drewN_drewN _ _ _⟩ | exact ⟨rfl, _, Eq.trans (World.drewN_drewN _ _ _) (congrArg (World.drewN _) (Nat.add_assoc _ _ _))⟩)) | (go_at_call 17; (with_reducible refine (bigendian_Fits.calls a3 4 true _ A43.out).mono ?_); rintro e w' ⟨rfl, ⟨nd, rfl⟩⟩; (try first | exact ⟨rfl, _, World.drewN_drewN _ _ _⟩ | exact ⟨rfl, _, Eq.trans (World.drewN_drewN _ _ _) (congrArg (World.drewN _) (Nat.add_assoc _ _ _))⟩)) | (go_at_call 17; (with_reducible refine (bigendian_Fits.calls a3 8 false _ A45.out).mono ?_); rintro e w' ⟨rfl, ⟨nd, rfl⟩⟩; (try first | exact ⟨rfl, _, World.drewN_drewN _ _ _⟩ | exact ⟨rfl, _, Eq.trans (World.drewN_drewN _ _ _) (congrArg (World.drewN _) (Nat.add_assoc _ _ _))⟩))); try go_wp2_with (first | (go_at_call 17; (with_reducible refine (bigendian_Fits.calls a3 1 false _ A37.out).mono ?_); rintro e w' ⟨rfl, ⟨nd, rfl⟩⟩; (try first | exact ⟨rfl, _, World.drewN_drewN _ _ _⟩ | exact ⟨rfl, _, Eq.trans (World.drewN_drewN _ _ _) (congrArg (World.drewN _) (Nat.add_assoc _ _ _))⟩)) | (go_at_call 17; (with_reducible refine (bigendian_Fits.calls a3 4 true _ A43.out).mono ?_); rintro e w' ⟨rfl, ⟨nd, rfl⟩⟩; (try first | exact ⟨rfl, _, World.drewN_drewN _ _ _⟩ | exact ⟨rfl, _, Eq.trans (World.drewN_drewN _ _ _) (congrArg (World.drewN _) (Nat.add_assoc _ _ _))⟩)) | (go_at_call 17; (with_reducible refine (bigendian_Fits.calls a3 8 false _ A45.out).mono ?_); rintro e w' ⟨rfl, ⟨nd, rfl⟩⟩; (try first | exact ⟨rfl, _, World.drewN_drewN _ _ _⟩ | exact ⟨rfl, _, Eq.trans (World.drewN_drewN _ _ _) (congrArg (World.drewN _) (Nat.add_assoc _ _ _))⟩))))
                            go_ret
                            exact ⟨by first | rfl | (simp [errW_none, errW_some] <;> rfl) | (simp [*, errW_none, errW_some] <;> rfl), by repeat (first | (with_reducible first | exact HB.out | apply below_alloc | apply pw_below_drewN | apply below_drew1) | exact HB.out)⟩
                        · replace c44 := Bool.eq_false_iff.mpr c44
                          subst c44
                          have H1 : ((bigendian_Fits.f a3 8).bind fun t268 => (some t268)) = some r := by rw [if_neg (show ¬ (false = true) by decide)] at H; exact H
                          clear H
                          have H := H1
                          clear H1
                          replace H := Option.bind_eq_some_iff.mp H
                          obtain ⟨t268, A470, H⟩ := H
                          replace H : (some t268) = some r := H
                          have A47 := Aside0.mk A470
                          clear A470
                          obtain rfl := Option.some.inj H
                          go_wp2_with (first | (go_at_call 17; (with_reducible refine (bigendian_Fits.calls a3 1 false _ A37.out).mono ?_); rintro e w' ⟨rfl, ⟨nd, rfl⟩⟩; (try first | exact ⟨rfl, _, World.drewN_drewN _ _ _⟩ | exact ⟨rfl, _, Eq.trans (World.drewN_drewN _ _ _) (congrArg (World.drewN _) (Nat.add_assoc _ _ _))⟩)) | (go_at_call 17; (with_reducible refine (bigendian_Fits.calls a3 4 false _ A43.out).mono ?_); rintro e w' ⟨rfl, ⟨nd, rfl⟩⟩; (try first | exact ⟨rfl, _, World.drewN_drewN _ _ _⟩ | exact ⟨rfl, _, Eq.trans (World.drewN_drewN _ _ _) (congrArg (World.drewN _) (Nat.add_assoc _ _ _))⟩)) | (go_at_call 17; (with_reducible refine (bigendian_Fits.calls a3 8 t268 _ A47.out).mono ?_); rintro e w' ⟨rfl, ⟨nd, rfl⟩⟩; (try first | exact ⟨rfl, _, World.drewN_drewN _ _ _⟩ | exact ⟨rfl, _, Eq.trans (World.drewN_drewN _ _ _) (congrArg (World.drewN _) (Nat.add_assoc _ _ _))⟩)))
                          repeat (go_quiet (first | (go_at_call 17; (with_reducible refine (bigendian_Fits.calls a3 1 false _ A37.out).mono ?_); rintro e w' ⟨rfl, ⟨nd, rfl⟩⟩; (try first | exact ⟨rfl, _, World.drewN_drewN _ _ _⟩ | exact ⟨rfl, _, Eq.trans (World.drewN_drewN _ _ _) (congrArg (World.drewN _) (Nat.add_assoc _ _ _))⟩)) | (go_at_call 17; (with_reducible refine (bigendian_Fits.calls a3 4 false _ A43.out).mono ?_); rintro e w' ⟨rfl, ⟨nd, rfl⟩⟩; (try first | exact ⟨rfl, _, World.drewN_drewN _ _ _⟩ | exact ⟨rfl, _, Eq.trans (World.drewN_drewN _ _ _) (congrArg (World.drewN _) (Nat.add_assoc _ _ _))⟩)) | (go_at_call 17; (with_reducible refine (bigendian_Fits.calls a3 8 t268 _ A47.out).mono ?_); rintro e w' ⟨rfl, ⟨nd, rfl⟩⟩; (try first | exact ⟨rfl, _, World.drewN_drewN _ _ _⟩ | exact ⟨rfl, _, Eq.trans (World.drewN_drewN _ _ _) (congrArg (World.drewN _) (Nat.add_assoc _ _ _))⟩))); try go_wp2_with (first | (go_at_call 17; (with_reducible refine (bigendian_Fits.calls a3 1 false _ A37.out).mono ?_); rintro e w' ⟨rfl, ⟨nd, rfl⟩⟩; (try first | exact ⟨rfl, _, World.drewN_drewN _ _ _⟩ | exact ⟨rfl, _, Eq.trans (World.drewN_drewN _ _ _) (congrArg (World.drewN _) (Nat.add_assoc _ _ _))⟩)) | (go_at_call 17; (with_reducible refine (bigendian_Fits.calls a3 4 false _ A43.out).mono ?_); rintro e w' ⟨rfl, ⟨nd, rfl⟩⟩; (try first | exact ⟨rfl, _, World.drewN_drewN _ _ _⟩ | exact ⟨rfl, _, Eq.trans (World.drewN_drewN _ _ _) (congrArg (World.drewN _) (Nat.add_assoc _ _ _))⟩)) | (go_at_call 17; (with_reducible refine (bigendian_Fits.calls a3 8 t268 _ A47.out).mono ?_); rintro e w' ⟨rfl, ⟨nd, rfl⟩⟩; (try first | exact ⟨rfl, _, World.drewN_drewN _ _ _⟩ | exact ⟨rfl, _, Eq.trans (World.drewN_drewN _ _ _) (congrArg (World.drewN _) (Nat.add_assoc _ _ _))⟩))))
                          go_ret
                          exact ⟨by first | rfl | (simp [errW_none, errW_some] <;> rfl) | (simp [*, errW_none, errW_some] <;> rfl), by repeat (first | (with_reducible first | exact HB.out | apply below_alloc | apply pw_below_drewN | apply below_drew1) | exact HB.out)⟩
                    · rw [if_neg c36] at H
                      have c36b0 : (x12_3 == (decide (x1_7 < x2_7))) = false := by simpa using c36
                      (try (have c36b1 : decide (x12_3 = (decide (x1_7 < x2_7))) = false := by simpa using c36))
                      (try (have c36b2 : (x12_3 == (decide (x1_7 < x2_7))) = false := by simpa using c36))
                      (try (have c36b3 : ¬ (x12_3 = (decide (x1_7 < x2_7))) := by simpa using c36))
                      clear c36
                      obtain rfl := Option.some.inj H
                      go_wp2
                      repeat (go_quiet (fail); try go_wp2)
                      go_ret
                      exact ⟨by first | rfl | (simp [errW_none, errW_some] <;> rfl) | (simp [*, errW_none, errW_some] <;> rfl), by repeat (first | (with_reducible first | exact HB.out | apply below_alloc | apply pw_below_drewN | apply below_drew1) | exact HB.out)⟩
  · replace c6 := Bool.eq_false_iff.mpr c6
    subst c6
    have H1 : (some false) = some r := by rw [if_neg (show ¬ (false = true) by decide)] at H; exact H
    clear H
    have H := H1
    clear H1
    obtain rfl := Option.some.inj H
    go_enter Try.func7, Try.ntmps7
    go_wp2_with (first | (go_at_call 8; (with_reducible refine (zoneinfolaw01_awake.calls k  false _ A5.out).mono ?_); rintro e w48 ⟨rfl, hb⟩; have n0_ := Aside0.mk (below_step (by repeat (first | (with_reducible first | exact HB.out | apply below_alloc | apply pw_below_drewN | apply below_drew1) | exact HB.out)) hb); clear HB; have HB := n0_; clear n0_; (try clear hb); (try clear hb2); (try clear hk); (try clear hi)))
    repeat (go_quiet (first | (go_at_call 8; (with_reducible refine (zoneinfolaw01_awake.calls k  false _ A5.out).mono ?_); rintro e w48 ⟨rfl, hb⟩; have n0_ := Aside0.mk (below_step (by repeat (first | (with_reducible first | exact HB.out | apply below_alloc | apply pw_below_drewN | apply below_drew1) | exact HB.out)) hb); clear HB; have HB := n0_; clear n0_; (try clear hb); (try clear hb2); (try clear hk); (try clear hi))); try go_wp2_with (first | (go_at_call 8; (with_reducible refine (zoneinfolaw01_awake.calls k  false _ A5.out).mono ?_); rintro e w48 ⟨rfl, hb⟩; have n0_ := Aside0.mk (below_step (by repeat (first | (with_reducible first | exact HB.out | apply below_alloc | apply pw_below_drewN | apply below_drew1) | exact HB.out)) hb); clear HB; have HB := n0_; clear n0_; (try clear hb); (try clear hb2); (try clear hk); (try clear hi))))
    go_ret
    exact ⟨by first | rfl | (simp [errW_none, errW_some] <;> rfl) | (simp [*, errW_none, errW_some] <;> rfl), by repeat (first | (with_reducible first | exact HB.out | apply below_alloc | apply pw_below_drewN | apply below_drew1) | exact HB.out)⟩

/-- THE ONE PURE STATEMENT of zoneinfolaw01_BigendianOrder: yours. -/
def zoneinfolaw01_BigendianOrder.Pure : Prop := ∀ (a0 : Int) (a1 : Int) (a2 : Int) (a3 : Int), (Lit.int .u8 a0).wf = true → (Lit.int .u64 a1).wf = true → (Lit.int .u64 a2).wf = true → (Lit.int .i64 a3).wf = true → ∃ k, zoneinfolaw01_BigendianOrder.f k a0 a1 a2 a3 = some true
theorem zoneinfolaw01_BigendianOrder.walk (P : zoneinfolaw01_BigendianOrder.Pure) (a0 : Int) (a1 : Int) (a2 : Int) (a3 : Int) (w : World) (w0 : (Lit.int .u8 a0).wf = true) (w1 : (Lit.int .u64 a1).wf = true) (w2 : (Lit.int .u64 a2).wf = true) (w3 : (Lit.int .i64 a3).wf = true) :
    Calls Try.prog 7 #[.int .u8 a0, .int .u64 a1, .int .u64 a2, .int .i64 a3] w fun e w' => e = .returned (.bool true) ∧ Below w.heap.size w w' := by
  obtain ⟨k, h⟩ := P a0 a1 a2 a3 w0 w1 w2 w3
  refine (zoneinfolaw01_BigendianOrder.calls k a0 a1 a2 a3 true w h).mono ?_
  rintro e w' ⟨rfl, hd⟩
  exact ⟨rfl, hd⟩

end Go.Proofs.Ytkjladlaicdhpaa.G
