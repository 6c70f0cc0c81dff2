/- Written by a program of this session for this seat: contracts of the functions that its laws reach, or the row of a law over its plain part. -/
import Derived.Test.YtnhlnbpkpalgdaaGx0
import Derived.Test.YtnhlnbpkpalgdaaGx1
import Derived.Test.YtnhlnbpkpalgdaaGx2
import Derived.Test.YtnhlnbpkpalgdaaGx3
namespace Go.Proofs.Ytnhlnbpkpalgdaa.G
open Go.RowKit Go.Proofs.YtnhlnbpkpalgdaaW.PrintWords Go.Proofs.YtnhlnbpkpalgdaaW.PrintLast Go.Proofs.YtnhlnbpkpalgdaaW.PrintMore
attribute [local go_sem] max2_int min2_int max_two min_two max_three min_three max_four min_four   -- for this text's walks alone
set_option linter.unusedVariables false
set_option linter.unusedSimpArgs false

attribute [local go_sem high] eqA31 eqA33
/-! ### zoneinforef14_Offsets: function 14 -/
def zoneinforef14_Offsets.f (a0_0 : Int) (a0_1 : Int) (a0_2 : Int) (a0_3 : Int) (a0_4 : Int) (a0_5 : Int) (a0_6 : Int) (a1 : Int) : Option (Int × Int × Int × Int × Int × Int × Int × Int) :=
  (zoneinforef14_Lengths.f a0_0 a0_1 a0_2 a0_3 a0_4 a0_5 a0_6 a1).bind fun b => some (sumU (pick7 b.1 b.2.1 b.2.2.1 b.2.2.2.1 b.2.2.2.2.1 b.2.2.2.2.2.1 b.2.2.2.2.2.2) 0, sumU (pick7 b.1 b.2.1 b.2.2.1 b.2.2.2.1 b.2.2.2.2.1 b.2.2.2.2.2.1 b.2.2.2.2.2.2) 1, sumU (pick7 b.1 b.2.1 b.2.2.1 b.2.2.2.1 b.2.2.2.2.1 b.2.2.2.2.2.1 b.2.2.2.2.2.2) 2, sumU (pick7 b.1 b.2.1 b.2.2.1 b.2.2.2.1 b.2.2.2.2.1 b.2.2.2.2.2.1 b.2.2.2.2.2.2) 3, sumU (pick7 b.1 b.2.1 b.2.2.1 b.2.2.2.1 b.2.2.2.2.1 b.2.2.2.2.2.1 b.2.2.2.2.2.2) 4, sumU (pick7 b.1 b.2.1 b.2.2.1 b.2.2.2.1 b.2.2.2.2.1 b.2.2.2.2.2.1 b.2.2.2.2.2.2) 5, sumU (pick7 b.1 b.2.1 b.2.2.1 b.2.2.2.1 b.2.2.2.2.1 b.2.2.2.2.2.1 b.2.2.2.2.2.2) 6, sumU (pick7 b.1 b.2.1 b.2.2.1 b.2.2.2.1 b.2.2.2.2.1 b.2.2.2.2.2.1 b.2.2.2.2.2.2) 7)
set_option maxHeartbeats 8000000 in
set_option maxRecDepth 100000 in
theorem zoneinforef14_Offsets.calls (a0_0 : Int) (a0_1 : Int) (a0_2 : Int) (a0_3 : Int) (a0_4 : Int) (a0_5 : Int) (a0_6 : Int) (a1 : Int) (r1 r2 r3 r4 r5 r6 r7 r8 : Int) (w : World) (h : zoneinforef14_Offsets.f a0_0 a0_1 a0_2 a0_3 a0_4 a0_5 a0_6 a1 = some (r1, r2, r3, r4, r5, r6, r7, r8)) :
    Calls Try.prog 14 #[.agg #[.int .i64 a0_0, .int .u32 a0_1, .int .u32 a0_2, .int .u32 a0_3, .int .u32 a0_4, .int .u32 a0_5, .int .u32 a0_6], .int .i64 a1] w fun e w' => e = .returned (.agg #[.int .u64 r1, .int .u64 r2, .int .u64 r3, .int .u64 r4, .int .u64 r5, .int .u64 r6, .int .u64 r7, .int .u64 r8]) ∧ Below w.heap.size w w' := by
  have HB := Aside0.mk (Below.refl w.heap.size w)
  have H := Option.bind_eq_some_iff.mp h
  clear h
  obtain ⟨⟨x0, x1, x2, x3, x4, x5, x6⟩, h1, h2⟩ := H
  have H1 := Aside0.mk h1
  simp only [Option.some.injEq, Prod.mk.injEq] at h2
  obtain ⟨e1, e2, e3, e4, e5, e6, e7, e8⟩ := h2
  have H2 := Aside0.mk (show rowU (sumU (pick7 x0 x1 x2 x3 x4 x5 x6)) 8 = #[.int .u64 r1, .int .u64 r2, .int .u64 r3, .int .u64 r4, .int .u64 r5, .int .u64 r6, .int .u64 r7, .int .u64 r8] by rw [← e1, ← e2, ← e3, ← e4, ← e5, ← e6, ← e7, ← e8]; rfl)
  clear h1 e1 e2 e3 e4 e5 e6 e7 e8
  go_enter Try.func14, Try.ntmps14
  go_wp2_with (first
    | ((with_reducible refine gate_dst (N := 2) rfl ?_); refine box_event ?hg (N := 2) ?hd (cs := #[.int .i64 a0_0, .int .u32 a0_1, .int .u32 a0_2, .int .u32 a0_3, .int .u32 a0_4, .int .u32 a0_5, .int .u32 a0_6]) (t := 24) ?hr ?_; (case hd => rfl); (case hg => rfl); (case hr => first | (go_simp; done) | (go_simp; rfl)); intro g2 hg2 w1 hk2 hb1; have n2 := Aside0.mk (Nat.le_trans HB.out.size (Nat.le_of_eq hg2.symm)); have n1 := Aside0.mk (below_step HB.out hb1); clear HB; have HB := n1; have GE2 := n2; clear n1 n2; have K2 := Aside0.mk hk2; clear hk2 hb1 hg2)
    | ((with_reducible refine gate_dst (N := 4) rfl ?_); refine box_event ?hg (N := 4) ?hd (cs := rowU (fun _ => 0) 8) (t := 33) ?hr ?_; (case hd => rfl); (case hg => rfl); (case hr => first | (go_simp; done) | (go_simp; rfl)); intro g4 hg4 w2 hk4 hb1; have m2 := Aside0.mk (blk_below K2.out hb1); have NE2_4 := Aside0.mk (show g2 ≠ g4 by rw [hg4]; exact Nat.ne_of_lt (blk_lt K2.out)); clear K2; have K2 := m2; clear m2; have n2 := Aside0.mk (Nat.le_trans HB.out.size (Nat.le_of_eq hg4.symm)); have n1 := Aside0.mk (below_step HB.out hb1); clear HB; have HB := n1; have GE4 := n2; clear n1 n2; have K4 := Aside0.mk hk4; clear hk4 hb1 hg4)
    | ((with_reducible refine gate_dst (N := 5) rfl ?_); refine box_event ?hg (N := 5) ?hd (cs := rowU (fun _ => 0) 8) (t := 33) ?hr ?_; (case hd => rfl); (case hg => rfl); (case hr => first | (go_simp; done) | (go_simp; rfl)); intro g5 hg5 w3 hk5 hb1; have m2 := Aside0.mk (blk_below K2.out hb1); have NE2_5 := Aside0.mk (show g2 ≠ g5 by rw [hg5]; exact Nat.ne_of_lt (blk_lt K2.out)); clear K2; have K2 := m2; clear m2; have m4 := Aside0.mk (blk_below K4.out hb1); have NE4_5 := Aside0.mk (show g4 ≠ g5 by rw [hg5]; exact Nat.ne_of_lt (blk_lt K4.out)); clear K4; have K4 := m4; clear m4; have n2 := Aside0.mk (Nat.le_trans HB.out.size (Nat.le_of_eq hg5.symm)); have n1 := Aside0.mk (below_step HB.out hb1); clear HB; have HB := n1; have GE5 := n2; clear n1 n2; have K5 := Aside0.mk hk5; clear hk5 hb1 hg5)
    | ((with_reducible refine gate_dst (N := 9) rfl ?_); refine wpList_load_row rfl 24 _ rfl g2 rfl 24 _ (0, 0) _ K2.out Try.underlying24 rfl (by kernel_rfl) ?_)
    | (go_at_call 12; (with_reducible refine (zoneinforef14_Lengths.calls a0_0 a0_1 a0_2 a0_3 a0_4 a0_5 a0_6 a1 x0 x1 x2 x3 x4 x5 x6 _ H1.out).mono ?_); rintro e w4 ⟨rfl, hb⟩; have n1 := Aside0.mk (below_step HB.out hb); have m4 := Aside0.mk (blk_below K4.out hb); have m5 := Aside0.mk (blk_below K5.out hb); clear HB K2 K4 K5 hb; have HB := n1; have K4 := m4; have K5 := m5; clear n1 m4 m5; rw [row7])
    | ((with_reducible refine gate_dst (N := 6) rfl ?_); refine box_event ?hg (N := 6) ?hd (cs := rowU (fun _ => 0) 7) (t := 31) ?hr ?_; (case hd => rfl); (case hg => rfl); (case hr => first | (go_simp; done) | (go_simp; rfl)); intro g6 hg6 w5 hk6 hb1; have m4 := Aside0.mk (blk_below K4.out hb1); have NE4_6 := Aside0.mk (show g4 ≠ g6 by rw [hg6]; exact Nat.ne_of_lt (blk_lt K4.out)); clear K4; have K4 := m4; clear m4; have m5 := Aside0.mk (blk_below K5.out hb1); have NE5_6 := Aside0.mk (show g5 ≠ g6 by rw [hg6]; exact Nat.ne_of_lt (blk_lt K5.out)); clear K5; have K5 := m5; clear m5; have n2 := Aside0.mk (Nat.le_trans HB.out.size (Nat.le_of_eq hg6.symm)); have n1 := Aside0.mk (below_step HB.out hb1); clear HB; have HB := n1; have GE6 := n2; clear n1 n2; have K6 := Aside0.mk hk6; clear hk6 hb1 hg6)
    | (refine row_store rfl 31 6 _ rfl rfl g6 rfl rfl K6.out (by kernel_rfl) rfl (rowU_one _ _) ?_; intro w6 hk hoth hb hsz1; have m4 := Aside0.mk (hoth g4 _ NE4_6.out K4.out); have m5 := Aside0.mk (hoth g5 _ NE5_6.out K5.out); have n1 := Aside0.mk (hb _ _ GE6.out HB.out); have n2 := Aside0.mk hk; clear HB K6 K4 K5 hb hk hoth hsz1; have HB := n1; have K6 := n2; have K4 := m4; have K5 := m5; clear n1 n2 m4 m5))
  go_loopw [7] (fun i wr => ∃ k : Nat, k ≤ 8 ∧ i = .int .i64 (k : Int) ∧ Aside0 (wr.heap[g5]? = some (.cells (rowU (fun j => if j < k then sumU (pick7 x0 x1 x2 x3 x4 x5 x6) j else 0) 8) 33 (0, 0))) ∧ Aside0 (wr.heap[g6]? = some (.cells (rowU (pick7 x0 x1 x2 x3 x4 x5 x6) 7) 31 (0, 0))) ∧ Aside0 (wr.heap[g4]? = some (.cells (rowU (fun _ => 0) 8) 33 (0, 0))) ∧ Aside0 (Below w.heap.size w wr)) (fun i _ => 8 - (intOf i).toNat)
  case atStart => exact ⟨0, by omega, rfl, ⟨by rw [K5.out, rowU_congr (f := fun j => if j < 0 then sumU (pick7 x0 x1 x2 x3 x4 x5 x6) j else 0) (g := fun _ => 0) (fun j hj => if_neg (by omega))]⟩, K6, K4, HB⟩
  case round =>
    clear K4 K5 K6 HB
    obtain ⟨k, hk, rfl, K5, K6, K4, HB⟩ := hrel
    by_cases hlt : k < 8
    · have c1 : decide ((k : Int) < 8) = true := decide_eq_true (by omega)
      go_wp2
      go_loopw [8] (fun i wq => ∃ m : Nat, m ≤ k ∧ i = .int .i64 (m : Int) ∧ Aside0 (wq.heap[g5]? = some (.cells (rowU (fun j => if j < k then sumU (pick7 x0 x1 x2 x3 x4 x5 x6) j else if j = k then sumU (pick7 x0 x1 x2 x3 x4 x5 x6) m else 0) 8) 33 (0, 0))) ∧ Aside0 (wq.heap[g6]? = some (.cells (rowU (pick7 x0 x1 x2 x3 x4 x5 x6) 7) 31 (0, 0))) ∧ Aside0 (wq.heap[g4]? = some (.cells (rowU (fun _ => 0) 8) 33 (0, 0))) ∧ Aside0 (Below w.heap.size w wq)) (fun i _ => k - (intOf i).toNat)
      case atStart => exact ⟨0, by omega, rfl, ⟨by rw [K5.out, rowU_congr (f := fun j => if j < k then sumU (pick7 x0 x1 x2 x3 x4 x5 x6) j else if j = k then sumU (pick7 x0 x1 x2 x3 x4 x5 x6) 0 else 0) (g := fun j => if j < k then sumU (pick7 x0 x1 x2 x3 x4 x5 x6) j else 0) (fun j hj => by by_cases h : j < k <;> simp [h, sumU])]⟩, K6, K4, HB⟩
      case round =>
        clear K4 K5 K6 HB
        obtain ⟨m, hm, rfl, K5, K6, K4, HB⟩ := hrel
        by_cases hlm : m < k
        · have hc5 : wr.cell? ⟨g5, k, none⟩ = some (.int .u64 (sumU (pick7 x0 x1 x2 x3 x4 x5 x6) m)) := (blk_cell K5.out k).trans ((rowU_get _ 8 k (by omega)).trans (by rw [if_neg (Nat.lt_irrefl k), if_pos rfl]))
          have hc6 : wr.cell? ⟨g6, m, none⟩ = some (.int .u64 ((pick7 x0 x1 x2 x3 x4 x5 x6) m)) := (blk_cell K6.out m).trans (rowU_get _ 7 m (by omega))
          have hf5 := blk_frozen K5.out k
          have c2 : decide ((m : Int) < (k : Int)) = true := decide_eq_true (by omega)
          have c3 : decide (m < k) = true := decide_eq_true (by omega)
          go_wp2
          go_region
          go_wp2
          go_roundw
          case rel => exact ⟨m + 1, by omega, by go_num, ⟨(blk_set K5.out k _).trans (by rw [rowU_set _ (fun j => if j < k then sumU (pick7 x0 x1 x2 x3 x4 x5 x6) j else if j = k then sumU (pick7 x0 x1 x2 x3 x4 x5 x6) (m + 1) else 0) 8 k _ (by rw [if_neg (Nat.lt_irrefl k), if_pos rfl]; rfl) (fun j hj => by simp [hj])])⟩, ⟨blk_far K6.out (Ne.symm NE5_6.out) _⟩, ⟨blk_far K4.out NE4_5.out _⟩, ⟨below_drew1 (below_set HB.out GE5.out)⟩⟩
          case measure => simp [intOf]; omega
        · obtain rfl : m = k := by omega
          have c2 : decide ((m : Int) < (m : Int)) = false := decide_eq_false (by omega)
          have c3 : decide (m < m) = false := decide_eq_false (by omega)
          go_wp2
          go_roundw
          case rel => exact ⟨m + 1, by omega, by go_num, ⟨by rw [K5.out, rowU_congr (g := fun j => if j < m + 1 then sumU (pick7 x0 x1 x2 x3 x4 x5 x6) j else 0) (fun j hj => by by_cases h : j < m <;> by_cases h2 : j = m <;> simp [h, h2] <;> omega)]⟩, K6, K4, HB⟩
          case measure => simp [intOf]; omega
    · have c1 : decide ((k : Int) < 8) = false := decide_eq_false (by omega)
      obtain rfl : k = 8 := by omega
      have K5' := Aside0.mk (K5.out.trans (by rw [rowU_congr (g := sumU (pick7 x0 x1 x2 x3 x4 x5 x6)) (fun j hj => if_pos hj)]))
      clear K5
      go_wp2_with (first
        | ((with_reducible refine gate_dst (N := 30) rfl ?_); refine wpList_load_row rfl 33 _ rfl g5 rfl 33 _ (0, 0) _ K5'.out Try.underlying33 rfl (by kernel_rfl) ?_)
        | (refine row_store rfl 33 4 _ rfl rfl g4 rfl rfl K4.out (by kernel_rfl) rfl (rowU_one _ _) ?_; intro w8 hk hoth hb hsz1; have n1 := Aside0.mk (hb _ _ GE4.out HB.out); have n2 := Aside0.mk hk; clear HB K4 hb hk hoth hsz1; have HB := n1; have K4 := n2; clear n1 n2))
      refine bodyPost_ret (results_cell_row rfl _ _ g4 33 _ (0, 0) _ rfl K4.out Try.underlying33 rfl (by kernel_rfl)) rfl ?_
      exact ⟨congrArg (fun x => Ending.returned (.agg x)) H2.out, HB.out⟩

/-! ### zoneinfolaw14_LayoutMatchesReference: function 3 -/
def zoneinfolaw14_LayoutMatchesReference.j0 : Nat → Int → Bool → Int → Int → Int → Int → Int → Int → Int → Option (Bool)
  | 0, _, _, _, _, _, _, _, _, _ => none
  | k + 1, x7, x45, x138000, x138001, x138002, x138003, x138004, x138005, x138006 => if x45 = true then (none) else ((layout_Lengths.f x138000 x138001 x138002 x138003 x138004 x138005 x138006 x7).bind fun bt143 => ((zoneinforef14_Lengths.f x138000 x138001 x138002 x138003 x138004 x138005 x138006 x7).bind fun bt150 => (if (bt143.1 == bt150.1 && (bt143.2.1 == bt150.2.1 && (bt143.2.2.1 == bt150.2.2.1 && (bt143.2.2.2.1 == bt150.2.2.2.1 && (bt143.2.2.2.2.1 == bt150.2.2.2.2.1 && (bt143.2.2.2.2.2.1 == bt150.2.2.2.2.2.1 && (bt143.2.2.2.2.2.2 == bt150.2.2.2.2.2.2))))))) = true then ((layout_Offsets.f x138000 x138001 x138002 x138003 x138004 x138005 x138006 x7).bind fun bt157 => ((zoneinforef14_Offsets.f x138000 x138001 x138002 x138003 x138004 x138005 x138006 x7).bind fun bt165 => (some (bt157.1 == bt165.1 && (bt157.2.1 == bt165.2.1 && (bt157.2.2.1 == bt165.2.2.1 && (bt157.2.2.2.1 == bt165.2.2.2.1 && (bt157.2.2.2.2.1 == bt165.2.2.2.2.1 && (bt157.2.2.2.2.2.1 == bt165.2.2.2.2.2.1 && (bt157.2.2.2.2.2.2.1 == bt165.2.2.2.2.2.2.1 && (bt157.2.2.2.2.2.2.2 == bt165.2.2.2.2.2.2.2))))))))))) else (none))))
def zoneinfolaw14_LayoutMatchesReference.f (k : Nat) (a0_0 : Int) (a0_1 : Int) (a0_2 : Int) (a0_3 : Int) (a0_4 : Int) (a0_5 : Int) (a0_6 : Int) (a1 : Bool) (a2 : Int) : Option (Bool) := (zoneinfolaw14_awake.f).bind fun t138 => (if t138 = true then ((zoneinforef14_Size.f a1).bind fun t139 => ((layout_Total.f a0_0 a0_1 a0_2 a0_3 a0_4 a0_5 a0_6 t139 a2).bind fun bt140 => ((zoneinforef14_Sum.f a0_0 a0_1 a0_2 a0_3 a0_4 a0_5 a0_6 t139).bind fun t142 => (if (bt140.2 != (decide (t142 ≤ a2))) = true then (none) else (if bt140.2 = true then (if bt140.1 = t142 then (zoneinfolaw14_LayoutMatchesReference.j0 k t139 false a0_0 a0_1 a0_2 a0_3 a0_4 a0_5 a0_6) else (none)) else (zoneinfolaw14_LayoutMatchesReference.j0 k t139 (bt140.1 != 0) a0_0 a0_1 a0_2 a0_3 a0_4 a0_5 a0_6)))))) else (none))
theorem zoneinfolaw14_LayoutMatchesReference.mono_l : ∀ k, (∀ y0 y1 y2 y3 y4 y5 y6 y7 y8, LeO (zoneinfolaw14_LayoutMatchesReference.j0 k y0 y1 y2 y3 y4 y5 y6 y7 y8) (zoneinfolaw14_LayoutMatchesReference.j0 (k + 1) y0 y1 y2 y3 y4 y5 y6 y7 y8))
  | 0 => fun _ _ _ _ _ _ _ _ _ r h => by simp [zoneinfolaw14_LayoutMatchesReference.j0] at h
  | k + 1 => by
    have ih0 := zoneinfolaw14_LayoutMatchesReference.mono_l k
    · intro y0 y1 y2 y3 y4 y5 y6 y7 y8
      unfold zoneinfolaw14_LayoutMatchesReference.j0
      repeat' first
      | (with_reducible exact ih0 _ _ _ _ _ _ _ _ _)
      | (with_reducible exact LeO.refl _)
      | (with_reducible exact LeO.none _)
      | (with_reducible refine LeO.ite ?_ ?_)
      | (with_reducible refine LeO.bind ?_ (fun _ => ?_))
      | exact ih0 _ _ _ _ _ _ _ _ _
      | exact LeO.none _
      | refine LeO.ite ?_ ?_
      | refine LeO.bind ?_ (fun _ => ?_)
theorem zoneinfolaw14_LayoutMatchesReference.mono : ∀ a0 a1 a2 a3 a4 a5 a6 a7 a8 k, LeO (zoneinfolaw14_LayoutMatchesReference.f k a0 a1 a2 a3 a4 a5 a6 a7 a8) (zoneinfolaw14_LayoutMatchesReference.f (k + 1) a0 a1 a2 a3 a4 a5 a6 a7 a8) := by
  intro a0 a1 a2 a3 a4 a5 a6 a7 a8 k
  have ih0 := zoneinfolaw14_LayoutMatchesReference.mono_l k
  unfold zoneinfolaw14_LayoutMatchesReference.f
  repeat' first
      | (with_reducible exact ih0 _ _ _ _ _ _ _ _ _)
      | (with_reducible exact LeO.refl _)
      | (with_reducible exact LeO.none _)
      | (with_reducible refine LeO.ite ?_ ?_)
      | (with_reducible refine LeO.bind ?_ (fun _ => ?_))
      | exact ih0 _ _ _ _ _ _ _ _ _
      | exact LeO.none _
      | refine LeO.ite ?_ ?_
      | refine LeO.bind ?_ (fun _ => ?_)
def zoneinfolaw14_LayoutMatchesReference.T8 : Bool × List (List Nat × List Nat) := (true, [([], []), ([], []), ([0, 1], [0, 1]), ([], []), ([], []), ([3, 4, 2], [3, 4]), ([2, 5], [2, 5]), ([6, 5], [6]), ([7], [7]), ([7], [7]), ([8, 9, 7, 7], [7, 8, 9]), ([7], [7]), ([7], [7]), ([11, 12, 10, 7], [7, 11, 12]), ([10, 13, 7], [7, 10, 13]), ([7, 14], [7, 14]), ([15, 13, 0, 1, 2, 3, 4, 5, 6, 7, 8, 9, 10, 11, 12, 13, 14, 15], [15])])
def zoneinfolaw14_LayoutMatchesReference.B8 : List Nat := [0, 0, 3, 0, 0, 31, 63, 127, 255, 255, 1023, 255, 255, 8191, 16383, 32767, 65535]
theorem zoneinfolaw14_LayoutMatchesReference.tab8 : rtab .any (opsOf Try.f3 8) = zoneinfolaw14_LayoutMatchesReference.T8 := by kernel_rfl
theorem zoneinfolaw14_LayoutMatchesReference.bits8 : waitsOk zoneinfolaw14_LayoutMatchesReference.T8.2 zoneinfolaw14_LayoutMatchesReference.B8 = true := by kernel_rfl
set_option maxHeartbeats 8000000 in
set_option maxRecDepth 100000 in
theorem zoneinfolaw14_LayoutMatchesReference.calls (k : Nat) (a0_0 : Int) (a0_1 : Int) (a0_2 : Int) (a0_3 : Int) (a0_4 : Int) (a0_5 : Int) (a0_6 : Int) (a1 : Bool) (a2 : Int) (r : Bool) (w : World) (h : zoneinfolaw14_LayoutMatchesReference.f k a0_0 a0_1 a0_2 a0_3 a0_4 a0_5 a0_6 a1 a2 = some r) :
    Calls Try.prog 3 #[.agg #[.int .i64 a0_0, .int .u32 a0_1, .int .u32 a0_2, .int .u32 a0_3, .int .u32 a0_4, .int .u32 a0_5, .int .u32 a0_6], .bool a1, .int .u64 a2] w fun e w' => e = .returned (.bool r) ∧ Below w.heap.size w w' := by
  have hu24 := Try.underlying24
  have HB := Aside0.mk (Below.refl w.heap.size w)
  have H : ((zoneinfolaw14_awake.f).bind fun t138 => (if t138 = true then ((zoneinforef14_Size.f a1).bind fun t139 => ((layout_Total.f a0_0 a0_1 a0_2 a0_3 a0_4 a0_5 a0_6 t139 a2).bind fun bt140 => ((zoneinforef14_Sum.f a0_0 a0_1 a0_2 a0_3 a0_4 a0_5 a0_6 t139).bind fun t142 => (if (bt140.2 != (decide (t142 ≤ a2))) = true then (none) else (if bt140.2 = true then (if bt140.1 = t142 then (zoneinfolaw14_LayoutMatchesReference.j0 k t139 false a0_0 a0_1 a0_2 a0_3 a0_4 a0_5 a0_6) else (none)) else (zoneinfolaw14_LayoutMatchesReference.j0 k t139 (bt140.1 != 0) a0_0 a0_1 a0_2 a0_3 a0_4 a0_5 a0_6)))))) else (none))) = some r := h
  clear h
  replace H := Option.bind_eq_some_iff.mp H
  obtain ⟨t138, A40, H⟩ := H
  replace H : (if t138 = true then ((zoneinforef14_Size.f a1).bind fun t139 => ((layout_Total.f a0_0 a0_1 a0_2 a0_3 a0_4 a0_5 a0_6 t139 a2).bind fun bt140 => ((zoneinforef14_Sum.f a0_0 a0_1 a0_2 a0_3 a0_4 a0_5 a0_6 t139).bind fun t142 => (if (bt140.2 != (decide (t142 ≤ a2))) = true then (none) else (if bt140.2 = true then (if bt140.1 = t142 then (zoneinfolaw14_LayoutMatchesReference.j0 k t139 false a0_0 a0_1 a0_2 a0_3 a0_4 a0_5 a0_6) else (none)) else (zoneinfolaw14_LayoutMatchesReference.j0 k t139 (bt140.1 != 0) a0_0 a0_1 a0_2 a0_3 a0_4 a0_5 a0_6)))))) else (none)) = some r := H
  have A4 := Aside0.mk A40
  clear A40
  by_cases c5 : t138 = true
  · subst c5
    have H1 : ((zoneinforef14_Size.f a1).bind fun t139 => ((layout_Total.f a0_0 a0_1 a0_2 a0_3 a0_4 a0_5 a0_6 t139 a2).bind fun bt140 => ((zoneinforef14_Sum.f a0_0 a0_1 a0_2 a0_3 a0_4 a0_5 a0_6 t139).bind fun t142 => (if (bt140.2 != (decide (t142 ≤ a2))) = true then (none) else (if bt140.2 = true then (if bt140.1 = t142 then (zoneinfolaw14_LayoutMatchesReference.j0 k t139 false a0_0 a0_1 a0_2 a0_3 a0_4 a0_5 a0_6) else (none)) else (zoneinfolaw14_LayoutMatchesReference.j0 k t139 (bt140.1 != 0) a0_0 a0_1 a0_2 a0_3 a0_4 a0_5 a0_6)))))) = some r := by rw [if_pos rfl] at H; exact H
    clear H
    have H := H1
    clear H1
    replace H := Option.bind_eq_some_iff.mp H
    obtain ⟨t139, A60, H⟩ := H
    replace H : ((layout_Total.f a0_0 a0_1 a0_2 a0_3 a0_4 a0_5 a0_6 t139 a2).bind fun bt140 => ((zoneinforef14_Sum.f a0_0 a0_1 a0_2 a0_3 a0_4 a0_5 a0_6 t139).bind fun t142 => (if (bt140.2 != (decide (t142 ≤ a2))) = true then (none) else (if bt140.2 = true then (if bt140.1 = t142 then (zoneinfolaw14_LayoutMatchesReference.j0 k t139 false a0_0 a0_1 a0_2 a0_3 a0_4 a0_5 a0_6) else (none)) else (zoneinfolaw14_LayoutMatchesReference.j0 k t139 (bt140.1 != 0) a0_0 a0_1 a0_2 a0_3 a0_4 a0_5 a0_6))))) = some r := H
    have A6 := Aside0.mk A60
    clear A60
    replace H := Option.bind_eq_some_iff.mp H
    obtain ⟨⟨t140, t141⟩, A70, H⟩ := H
    replace H : ((zoneinforef14_Sum.f a0_0 a0_1 a0_2 a0_3 a0_4 a0_5 a0_6 t139).bind fun t142 => (if (t141 != (decide (t142 ≤ a2))) = true then (none) else (if t141 = true then (if t140 = t142 then (zoneinfolaw14_LayoutMatchesReference.j0 k t139 false a0_0 a0_1 a0_2 a0_3 a0_4 a0_5 a0_6) else (none)) else (zoneinfolaw14_LayoutMatchesReference.j0 k t139 (t140 != 0) a0_0 a0_1 a0_2 a0_3 a0_4 a0_5 a0_6)))) = some r := H
    have A7 := Aside0.mk A70
    clear A70
    replace H := Option.bind_eq_some_iff.mp H
    obtain ⟨t142, A80, H⟩ := H
    replace H : (if (t141 != (decide (t142 ≤ a2))) = true then (none) else (if t141 = true then (if t140 = t142 then (zoneinfolaw14_LayoutMatchesReference.j0 k t139 false a0_0 a0_1 a0_2 a0_3 a0_4 a0_5 a0_6) else (none)) else (zoneinfolaw14_LayoutMatchesReference.j0 k t139 (t140 != 0) a0_0 a0_1 a0_2 a0_3 a0_4 a0_5 a0_6))) = some r := H
    have A8 := Aside0.mk A80
    clear A80
    have HC9 := Aside0.mk H
    clear H
    go_enter Try.func3, Try.ntmps3
    go_upto_region 6 with (first | ((with_reducible refine gate_dst (N := 3) rfl ?_); refine box_event ?hg (N := 3) ?hd (cs := #[.int .i64 a0_0, .int .u32 a0_1, .int .u32 a0_2, .int .u32 a0_3, .int .u32 a0_4, .int .u32 a0_5, .int .u32 a0_6]) (t := 24) ?hr ?_; (case hd => rfl); (case hg => rfl); (case hr => first | (go_simp; done) | (go_simp; rfl)); intro gb137 hg w10 hbox hb; have n0_ := Aside0.mk (below_step (by repeat (first | (with_reducible first | exact HB.out | apply below_alloc | apply pw_below_drewN | apply below_drew1) | exact HB.out)) hb); have n1_ := Aside0.mk (hbox); have n2_ := Aside0.mk ((by rw [hg]; exact (below_size (by repeat (first | (with_reducible first | exact HB.out | apply below_alloc | apply pw_below_drewN | apply below_drew1) | exact HB.out))) : w.heap.size ≤ gb137)); have n3_ := Aside0.mk ((by rw [hg]; exact (below_size (by repeat (first | (with_reducible first | exact HB.out | apply below_alloc | apply pw_below_drewN | apply below_drew1) | exact HB.out))) : w.heap.size ≤ gb137)); clear HB; have HB := n0_; have BK137 := n1_; have GW137 := n2_; have GE137 := n3_; clear n0_ n1_ n2_ n3_; clear hb hbox hg) | ((with_reducible refine gate_callee (f := 7) rfl ?_); refine goesL_ (some 11) rfl rfl Try.func7 (by kernel_rfl) rfl #[] rfl (by (try simp only [List.map_toArray, List.map_cons, List.map_nil]); first | done | rfl | (simp only [List.length_drop, List.length_take]; rfl)) ?_; (with_reducible refine (zoneinfolaw14_awake.calls  true _ A4.out).mono ?_); rintro e w11 ⟨rfl, hb⟩; refine ⟨_, rfl, ?_⟩; have n0_ := Aside0.mk (blk_below (g := gb137) (o := .cells #[.int .i64 a0_0, .int .u32 a0_1, .int .u32 a0_2, .int .u32 a0_3, .int .u32 a0_4, .int .u32 a0_5, .int .u32 a0_6] 24 (0, 0)) (by (with_reducible repeat (first | refine blk_drewN ?_ _ | refine blk_drew ?_ | refine blk_alloc ?_ _)); exact BK137.out) hb); have n1_ := Aside0.mk (below_step (by repeat (first | (with_reducible first | exact HB.out | apply below_alloc | apply pw_below_drewN | apply below_drew1 | refine below_set ?_ GE137.out) | exact HB.out)) hb); clear BK137; clear HB; have BK137 := n0_; have HB := n1_; clear n0_ n1_; (try clear hb); (try clear hb2); (try clear hk); (try clear hi)) | ((with_reducible refine gate_callee (f := 8) rfl ?_); refine goesL_ (some 14) rfl rfl Try.func8 (by kernel_rfl) rfl #[.bool a1] rfl (by (try simp only [List.map_toArray, List.map_cons, List.map_nil]); first | done | rfl | (simp only [List.length_drop, List.length_take]; rfl)) ?_; (with_reducible refine (zoneinforef14_Size.calls a1 t139 _ A6.out).mono ?_); rintro e w' ⟨rfl, ⟨nd, rfl⟩⟩; refine ⟨_, rfl, ?_⟩; have hcz12_0 : w11.cell? ⟨gb137, 0, none⟩ = some (.int .i64 a0_0) := (blk_cell BK137.out 0).trans rfl; have hcz12_1 : w11.cell? ⟨gb137, 1, none⟩ = some (.int .u32 a0_1) := (blk_cell BK137.out 1).trans rfl; have hcz12_2 : w11.cell? ⟨gb137, 2, none⟩ = some (.int .u32 a0_2) := (blk_cell BK137.out 2).trans rfl; have hcz12_3 : w11.cell? ⟨gb137, 3, none⟩ = some (.int .u32 a0_3) := (blk_cell BK137.out 3).trans rfl; have hcz12_4 : w11.cell? ⟨gb137, 4, none⟩ = some (.int .u32 a0_4) := (blk_cell BK137.out 4).trans rfl; have hcz12_5 : w11.cell? ⟨gb137, 5, none⟩ = some (.int .u32 a0_5) := (blk_cell BK137.out 5).trans rfl; have hcz12_6 : w11.cell? ⟨gb137, 6, none⟩ = some (.int .u32 a0_6) := (blk_cell BK137.out 6).trans rfl; have hfz12_0 := blk_frozen BK137.out 0; have hfz12_1 := blk_frozen BK137.out 1; have hfz12_2 := blk_frozen BK137.out 2; have hfz12_3 := blk_frozen BK137.out 3; have hfz12_4 := blk_frozen BK137.out 4; have hfz12_5 := blk_frozen BK137.out 5; have hfz12_6 := blk_frozen BK137.out 6) | ((with_reducible refine gate_callee (f := 9) rfl ?_); refine goesL_ (some 19) rfl rfl Try.func9 (by kernel_rfl) rfl #[.agg #[.int .i64 a0_0, .int .u32 a0_1, .int .u32 a0_2, .int .u32 a0_3, .int .u32 a0_4, .int .u32 a0_5, .int .u32 a0_6], .int .i64 t139, .int .u64 a2] rfl (by (try simp only [List.map_toArray, List.map_cons, List.map_nil]); first | done | rfl | (simp only [List.length_drop, List.length_take]; rfl)) ?_; (with_reducible refine (layout_Total.calls a0_0 a0_1 a0_2 a0_3 a0_4 a0_5 a0_6 t139 a2 t140 t141 _ A7.out).mono ?_); rintro e w13 ⟨rfl, hb⟩; refine ⟨_, rfl, ?_⟩; have n0_ := Aside0.mk (blk_below (g := gb137) (o := .cells #[.int .i64 a0_0, .int .u32 a0_1, .int .u32 a0_2, .int .u32 a0_3, .int .u32 a0_4, .int .u32 a0_5, .int .u32 a0_6] 24 (0, 0)) (by (with_reducible repeat (first | refine blk_drewN ?_ _ | refine blk_drew ?_ | refine blk_alloc ?_ _)); exact BK137.out) hb); have n1_ := Aside0.mk (below_step (by repeat (first | (with_reducible first | exact HB.out | apply below_alloc | apply pw_below_drewN | apply below_drew1 | refine below_set ?_ GE137.out) | exact HB.out)) hb); clear BK137; clear HB; have BK137 := n0_; have HB := n1_; clear n0_ n1_; (try clear hb); (try clear hb2); (try clear hk); (try clear hi); have hcz14_0 : w13.cell? ⟨gb137, 0, none⟩ = some (.int .i64 a0_0) := (blk_cell BK137.out 0).trans rfl; have hcz14_1 : w13.cell? ⟨gb137, 1, none⟩ = some (.int .u32 a0_1) := (blk_cell BK137.out 1).trans rfl; have hcz14_2 : w13.cell? ⟨gb137, 2, none⟩ = some (.int .u32 a0_2) := (blk_cell BK137.out 2).trans rfl; have hcz14_3 : w13.cell? ⟨gb137, 3, none⟩ = some (.int .u32 a0_3) := (blk_cell BK137.out 3).trans rfl; have hcz14_4 : w13.cell? ⟨gb137, 4, none⟩ = some (.int .u32 a0_4) := (blk_cell BK137.out 4).trans rfl; have hcz14_5 : w13.cell? ⟨gb137, 5, none⟩ = some (.int .u32 a0_5) := (blk_cell BK137.out 5).trans rfl; have hcz14_6 : w13.cell? ⟨gb137, 6, none⟩ = some (.int .u32 a0_6) := (blk_cell BK137.out 6).trans rfl; have hfz14_0 := blk_frozen BK137.out 0; have hfz14_1 := blk_frozen BK137.out 1; have hfz14_2 := blk_frozen BK137.out 2; have hfz14_3 := blk_frozen BK137.out 3; have hfz14_4 := blk_frozen BK137.out 4; have hfz14_5 := blk_frozen BK137.out 5; have hfz14_6 := blk_frozen BK137.out 6) | ((with_reducible refine gate_callee (f := 10) rfl ?_); refine goesL_ (some 24) rfl rfl Try.func10 (by kernel_rfl) rfl #[.agg #[.int .i64 a0_0, .int .u32 a0_1, .int .u32 a0_2, .int .u32 a0_3, .int .u32 a0_4, .int .u32 a0_5, .int .u32 a0_6], .int .i64 t139] rfl (by (try simp only [List.map_toArray, List.map_cons, List.map_nil]); first | done | rfl | (simp only [List.length_drop, List.length_take]; rfl)) ?_; (with_reducible refine (zoneinforef14_Sum.calls a0_0 a0_1 a0_2 a0_3 a0_4 a0_5 a0_6 t139 t142 _ A8.out).mono ?_); rintro e w15 ⟨rfl, hb⟩; refine ⟨_, rfl, ?_⟩; have n0_ := Aside0.mk (blk_below (g := gb137) (o := .cells #[.int .i64 a0_0, .int .u32 a0_1, .int .u32 a0_2, .int .u32 a0_3, .int .u32 a0_4, .int .u32 a0_5, .int .u32 a0_6] 24 (0, 0)) (by (with_reducible repeat (first | refine blk_drewN ?_ _ | refine blk_drew ?_ | refine blk_alloc ?_ _)); exact BK137.out) hb); have n1_ := Aside0.mk (below_step (by repeat (first | (with_reducible first | exact HB.out | apply below_alloc | apply pw_below_drewN | apply below_drew1 | refine below_set ?_ GE137.out) | exact HB.out)) hb); clear BK137; clear HB; have BK137 := n0_; have HB := n1_; clear n0_ n1_; (try clear hb); (try clear hb2); (try clear hk); (try clear hi)))
    (try simp only [Act.put, List.setIfInBounds_toArray, List.set_cons_zero, List.set_cons_succ])
    go_cut [45] (fun v45 wc => ∃ (kq : Nat) (x45_8 : Bool), v45 = .bool x45_8 ∧ Aside0 (zoneinfolaw14_LayoutMatchesReference.j0 kq t139 x45_8 a0_0 a0_1 a0_2 a0_3 a0_4 a0_5 a0_6 = some r) ∧ Aside0 (kq ≤ k) ∧ Aside0 (wc.heap[gb137]? = some (.cells #[.int .i64 a0_0, .int .u32 a0_1, .int .u32 a0_2, .int .u32 a0_3, .int .u32 a0_4, .int .u32 a0_5, .int .u32 a0_6] 24 (0, 0))) ∧ Aside0 (Below w.heap.size w wc))
    case first =>
      have H := HC9.out
      clear HC9
      by_cases c16 : (t141 != (decide (t142 ≤ a2))) = true
      · rw [if_pos c16] at H
        exact absurd H (by simp)
      · rw [if_neg c16] at H
        have c16b0 : (t141 != (decide (t142 ≤ a2))) = false := by simpa using c16
        (try (have c16b1 : decide (t141 = (decide (t142 ≤ a2))) = true := by simpa using c16))
        (try (have c16b2 : (t141 == (decide (t142 ≤ a2))) = true := by simpa using c16))
        clear c16
        (first | rw [c16b0] | (simp only [i64_w, i32_w]; rw [c16b0]) | skip)
        by_cases c17 : t141 = true
        · subst c17
          have H1 : (if t140 = t142 then (zoneinfolaw14_LayoutMatchesReference.j0 k t139 false a0_0 a0_1 a0_2 a0_3 a0_4 a0_5 a0_6) else (none)) = some r := by rw [if_pos rfl] at H; exact H
          clear H
          have H := H1
          clear H1
          by_cases c18 : t140 = t142
          · rw [if_pos c18] at H
            have c18b0 : (t140 == t142) = true := beq_iff_eq.mpr c18
            have c18b1 : (t140 != t142) = false := bne_eq_false_iff_eq.mpr c18
            clear c18
            have H' := Aside0.mk H
            clear H
            go_wp2
            go_meet
            case rel => exact ⟨_, (false), (by first | rfl | (simp; done) | (simp [*]; done)), H', ⟨by first | omega | exact Nat.le_refl _⟩, ⟨by (with_reducible repeat (first | refine blk_drewN ?_ _ | refine blk_drew ?_ | refine blk_alloc ?_ _)); exact BK137.out⟩, ⟨by repeat (first | (with_reducible first | exact HB.out | apply below_alloc | apply pw_below_drewN | apply below_drew1 | refine below_set ?_ GE137.out) | exact HB.out)⟩⟩
          · rw [if_neg c18] at H
            exact absurd H (by simp)
        · replace c17 := Bool.eq_false_iff.mpr c17
          subst c17
          have H1 : (zoneinfolaw14_LayoutMatchesReference.j0 k t139 (t140 != 0) a0_0 a0_1 a0_2 a0_3 a0_4 a0_5 a0_6) = some r := by rw [if_neg (show ¬ (false = true) by decide)] at H; exact H
          clear H
          have H := H1
          clear H1
          have H' := Aside0.mk H
          clear H
          go_wp2
          go_meet
          case rel => exact ⟨_, ((t140 != 0)), (by first | rfl | (simp; done) | (simp [*]; done)), H', ⟨by first | omega | exact Nat.le_refl _⟩, ⟨by (with_reducible repeat (first | refine blk_drewN ?_ _ | refine blk_drew ?_ | refine blk_alloc ?_ _)); exact BK137.out⟩, ⟨by repeat (first | (with_reducible first | exact HB.out | apply below_alloc | apply pw_below_drewN | apply below_drew1 | refine below_set ?_ GE137.out) | exact HB.out)⟩⟩
    case rest =>
      clear HC9
      try clear c1
      try clear p2
      try clear c3
      try clear c5
      try clear c7
      try clear c8
      try clear c9
      try clear c10
      try clear c16
      try clear c16b0
      try clear c16b1
      try clear c16b2
      try clear c17
      try clear c18
      try clear c18b0
      try clear c18b1
      try clear hcz12_0
      try clear hcz12_1
      try clear hcz12_2
      try clear hcz12_3
      try clear hcz12_4
      try clear hcz12_5
      try clear hcz12_6
      try clear hcz14_0
      try clear hcz14_1
      try clear hcz14_2
      try clear hcz14_3
      try clear hcz14_4
      try clear hcz14_5
      try clear hcz14_6
      try clear hfz12_0
      try clear hfz12_1
      try clear hfz12_2
      try clear hfz12_3
      try clear hfz12_4
      try clear hfz12_5
      try clear hfz12_6
      try clear hfz14_0
      try clear hfz14_1
      try clear hfz14_2
      try clear hfz14_3
      try clear hfz14_4
      try clear hfz14_5
      try clear hfz14_6
      obtain ⟨kq, x45_8, rfl, HA, HJ8, BK137, HB⟩ := hcut
      cases kq with
      | zero => exact absurd HA.out (by simp [zoneinfolaw14_LayoutMatchesReference.j0])
      | succ kj8 =>
        have H := HA.out
        clear HA
        simp only [zoneinfolaw14_LayoutMatchesReference.j0] at H
        by_cases c19 : x45_8 = true
        · subst c19
          have H1 : (none) = some r := by rw [if_pos rfl] at H; exact H
          clear H
          have H := H1
          clear H1
          exact absurd H (by simp)
        · replace c19 := Bool.eq_false_iff.mpr c19
          subst c19
          have H1 : ((layout_Lengths.f a0_0 a0_1 a0_2 a0_3 a0_4 a0_5 a0_6 t139).bind fun bt143 => ((zoneinforef14_Lengths.f a0_0 a0_1 a0_2 a0_3 a0_4 a0_5 a0_6 t139).bind fun bt150 => (if (bt143.1 == bt150.1 && (bt143.2.1 == bt150.2.1 && (bt143.2.2.1 == bt150.2.2.1 && (bt143.2.2.2.1 == bt150.2.2.2.1 && (bt143.2.2.2.2.1 == bt150.2.2.2.2.1 && (bt143.2.2.2.2.2.1 == bt150.2.2.2.2.2.1 && (bt143.2.2.2.2.2.2 == bt150.2.2.2.2.2.2))))))) = true then ((layout_Offsets.f a0_0 a0_1 a0_2 a0_3 a0_4 a0_5 a0_6 t139).bind fun bt157 => ((zoneinforef14_Offsets.f a0_0 a0_1 a0_2 a0_3 a0_4 a0_5 a0_6 t139).bind fun bt165 => (some (bt157.1 == bt165.1 && (bt157.2.1 == bt165.2.1 && (bt157.2.2.1 == bt165.2.2.1 && (bt157.2.2.2.1 == bt165.2.2.2.1 && (bt157.2.2.2.2.1 == bt165.2.2.2.2.1 && (bt157.2.2.2.2.2.1 == bt165.2.2.2.2.2.1 && (bt157.2.2.2.2.2.2.1 == bt165.2.2.2.2.2.2.1 && (bt157.2.2.2.2.2.2.2 == bt165.2.2.2.2.2.2.2))))))))))) else (none)))) = some r := by rw [if_neg (show ¬ (false = true) by decide)] at H; exact H
          clear H
          have H := H1
          clear H1
          replace H := Option.bind_eq_some_iff.mp H
          obtain ⟨⟨t143, t144, t145, t146, t147, t148, t149⟩, A200, H⟩ := H
          replace H : ((zoneinforef14_Lengths.f a0_0 a0_1 a0_2 a0_3 a0_4 a0_5 a0_6 t139).bind fun bt150 => (if (t143 == bt150.1 && (t144 == bt150.2.1 && (t145 == bt150.2.2.1 && (t146 == bt150.2.2.2.1 && (t147 == bt150.2.2.2.2.1 && (t148 == bt150.2.2.2.2.2.1 && (t149 == bt150.2.2.2.2.2.2))))))) = true then ((layout_Offsets.f a0_0 a0_1 a0_2 a0_3 a0_4 a0_5 a0_6 t139).bind fun bt157 => ((zoneinforef14_Offsets.f a0_0 a0_1 a0_2 a0_3 a0_4 a0_5 a0_6 t139).bind fun bt165 => (some (bt157.1 == bt165.1 && (bt157.2.1 == bt165.2.1 && (bt157.2.2.1 == bt165.2.2.1 && (bt157.2.2.2.1 == bt165.2.2.2.1 && (bt157.2.2.2.2.1 == bt165.2.2.2.2.1 && (bt157.2.2.2.2.2.1 == bt165.2.2.2.2.2.1 && (bt157.2.2.2.2.2.2.1 == bt165.2.2.2.2.2.2.1 && (bt157.2.2.2.2.2.2.2 == bt165.2.2.2.2.2.2.2))))))))))) else (none))) = some r := H
          have A20 := Aside0.mk A200
          clear A200
          replace H := Option.bind_eq_some_iff.mp H
          obtain ⟨⟨t150, t151, t152, t153, t154, t155, t156⟩, A210, H⟩ := H
          replace H : (if (t143 == t150 && (t144 == t151 && (t145 == t152 && (t146 == t153 && (t147 == t154 && (t148 == t155 && (t149 == t156))))))) = true then ((layout_Offsets.f a0_0 a0_1 a0_2 a0_3 a0_4 a0_5 a0_6 t139).bind fun bt157 => ((zoneinforef14_Offsets.f a0_0 a0_1 a0_2 a0_3 a0_4 a0_5 a0_6 t139).bind fun bt165 => (some (bt157.1 == bt165.1 && (bt157.2.1 == bt165.2.1 && (bt157.2.2.1 == bt165.2.2.1 && (bt157.2.2.2.1 == bt165.2.2.2.1 && (bt157.2.2.2.2.1 == bt165.2.2.2.2.1 && (bt157.2.2.2.2.2.1 == bt165.2.2.2.2.2.1 && (bt157.2.2.2.2.2.2.1 == bt165.2.2.2.2.2.2.1 && (bt157.2.2.2.2.2.2.2 == bt165.2.2.2.2.2.2.2))))))))))) else (none)) = some r := H
          have A21 := Aside0.mk A210
          clear A210
          by_cases c22 : (t143 == t150 && (t144 == t151 && (t145 == t152 && (t146 == t153 && (t147 == t154 && (t148 == t155 && (t149 == t156))))))) = true
          · rw [if_pos c22] at H
            have c22b0 : (t143 == t150 && (t144 == t151 && (t145 == t152 && (t146 == t153 && (t147 == t154 && (t148 == t155 && (t149 == t156))))))) = true := c22
            (try (have c22b1 : decide (t143 = t150 && (t144 == t151 && (t145 == t152 && (t146 == t153 && (t147 == t154 && (t148 == t155 && (t149 == t156))))))) = true := by simpa using c22))
            (try (have c22b2 : (t143 == t150 && (t144 == t151 && (t145 == t152 && (t146 == t153 && (t147 == t154 && (t148 == t155 && (t149 == t156))))))) = true := by simpa using c22))
            clear c22
            replace H := Option.bind_eq_some_iff.mp H
            obtain ⟨⟨t157, t158, t159, t160, t161, t162, t163, t164⟩, A230, H⟩ := H
            replace H : ((zoneinforef14_Offsets.f a0_0 a0_1 a0_2 a0_3 a0_4 a0_5 a0_6 t139).bind fun bt165 => (some (t157 == bt165.1 && (t158 == bt165.2.1 && (t159 == bt165.2.2.1 && (t160 == bt165.2.2.2.1 && (t161 == bt165.2.2.2.2.1 && (t162 == bt165.2.2.2.2.2.1 && (t163 == bt165.2.2.2.2.2.2.1 && (t164 == bt165.2.2.2.2.2.2.2)))))))))) = some r := H
            have A23 := Aside0.mk A230
            clear A230
            replace H := Option.bind_eq_some_iff.mp H
            obtain ⟨⟨t165, t166, t167, t168, t169, t170, t171, t172⟩, A240, H⟩ := H
            replace H : (some (t157 == t165 && (t158 == t166 && (t159 == t167 && (t160 == t168 && (t161 == t169 && (t162 == t170 && (t163 == t171 && (t164 == t172))))))))) = some r := H
            have A24 := Aside0.mk A240
            clear A240
            obtain rfl := Option.some.inj H
            try go_wp2
            have n0_ := Aside0.mk (blk_drew BK137.out)
            have n1_ := Aside0.mk (below_drew1 HB.out)
            clear BK137
            clear HB
            have BK137 := n0_
            have HB := n1_
            clear n0_ n1_
            refine start_ (n := 17) (S := fun w' => w'.cell? ⟨gb137, 0, none⟩ = some (.int .i64 a0_0) ∧ w'.cell? ⟨gb137, 1, none⟩ = some (.int .u32 a0_1) ∧ w'.cell? ⟨gb137, 2, none⟩ = some (.int .u32 a0_2) ∧ w'.cell? ⟨gb137, 3, none⟩ = some (.int .u32 a0_3) ∧ w'.cell? ⟨gb137, 4, none⟩ = some (.int .u32 a0_4) ∧ w'.cell? ⟨gb137, 5, none⟩ = some (.int .u32 a0_5) ∧ w'.cell? ⟨gb137, 6, none⟩ = some (.int .u32 a0_6)) (ds := []) #[false, false, false, false, false, false, false, false, false, false, false, false, false, false, false, false, false] (by kernel_rfl) rfl rfl ⟨(blk_cell BK137.out 0).trans rfl, (blk_cell BK137.out 1).trans rfl, (blk_cell BK137.out 2).trans rfl, (blk_cell BK137.out 3).trans rfl, (blk_cell BK137.out 4).trans rfl, (blk_cell BK137.out 5).trans rfl, (blk_cell BK137.out 6).trans rfl⟩ (fun hHeld => ?_); refine with_tabW zoneinfolaw14_LayoutMatchesReference.tab8 zoneinfolaw14_LayoutMatchesReference.bits8 (fun HT_ HW_ => ?_)
            generalize wc.drew = w25 at BK137 HB hHeld ⊢
            refine pure_ (i := 1) (N := some 47) (v := ?_) (a' := ?_) #[false, true, false, false, false, false, false, false, false, false, false, false, false, false, false, false, false] rfl rfl (any_of HT_.out (by kernel_rfl)) (fun _ _ _ h => h) (Or.inl ⟨by rfl, ?_⟩) ?_ ?_
            rotate_left
            · intro w'
              go_simp
              with_reducible rfl
            rotate_left
            · simp only [Act.put, List.setIfInBounds_toArray, List.set_cons_zero, List.set_cons_succ, i64_w, i32_w]
              rfl
            refine pure_ (i := 4) (N := some 50) (v := ?_) (a' := ?_) #[false, true, false, false, true, false, false, false, false, false, false, false, false, false, false, false, false] rfl rfl (any_of HT_.out (by kernel_rfl)) (fun _ _ _ h => h) (Or.inl ⟨by rfl, ?_⟩) ?_ ?_
            rotate_left
            · intro w'
              go_simp
              with_reducible rfl
            rotate_left
            · simp only [Act.put, List.setIfInBounds_toArray, List.set_cons_zero, List.set_cons_succ, i64_w, i32_w]
              rfl
            refine take_ (i := 0) (N := some 46) (v := ?_) (a' := ?_) #[true, true, false, false, true, false, false, false, false, false, false, false, false, false, false, false, false] rfl rfl (take_ofW HT_.out HW_.out (by kernel_rfl)) (fun _ _ _ h => h) (Or.inl ⟨by rfl, ?_⟩) hHeld ?_ ?_
            rotate_left
            · rintro w' ⟨s0, s1, s2, s3, s4, s5, s6⟩
              go_simp
              with_reducible rfl
            rotate_left
            · simp only [Act.put, List.setIfInBounds_toArray, List.set_cons_zero, List.set_cons_succ, i64_w, i32_w]
              rfl
            refine take_ (i := 3) (N := some 49) (v := ?_) (a' := ?_) #[true, true, false, true, true, false, false, false, false, false, false, false, false, false, false, false, false] rfl rfl (take_ofW HT_.out HW_.out (by kernel_rfl)) (fun _ _ _ h => h) (Or.inl ⟨by rfl, ?_⟩) hHeld ?_ ?_
            rotate_left
            · rintro w' ⟨s0, s1, s2, s3, s4, s5, s6⟩
              go_simp
              with_reducible rfl
            rotate_left
            · simp only [Act.put, List.setIfInBounds_toArray, List.set_cons_zero, List.set_cons_succ, i64_w, i32_w]
              rfl
            refine one_ (i := 2) (N := some 48) #[true, true, true, true, true, false, false, false, false, false, false, false, false, false, false, false, false] rfl rfl (one_of HT_.out (by kernel_rfl)) (by decide) (fun K hK => ?_)
            refine goes_ Try.func11 (by kernel_rfl) rfl #[.agg #[.int .i64 a0_0, .int .u32 a0_1, .int .u32 a0_2, .int .u32 a0_3, .int .u32 a0_4, .int .u32 a0_5, .int .u32 a0_6], .int .i64 t139] (by rfl) rfl rfl (by (try simp only [List.map_toArray, List.map_cons, List.map_nil]); first | done | rfl | (simp only [List.length_drop, List.length_take]; rfl)) ?_
            with_reducible refine (layout_Lengths.calls a0_0 a0_1 a0_2 a0_3 a0_4 a0_5 a0_6 t139 t143 t144 t145 t146 t147 t148 t149 _ A20.out).mono ?_
            rintro e w26 ⟨rfl, hb⟩
            refine ⟨_, rfl, ?_⟩
            have n0_ := Aside0.mk (blk_below (g := gb137) (o := .cells #[.int .i64 a0_0, .int .u32 a0_1, .int .u32 a0_2, .int .u32 a0_3, .int .u32 a0_4, .int .u32 a0_5, .int .u32 a0_6] 24 (0, 0)) (by (with_reducible repeat (first | refine blk_drewN ?_ _ | refine blk_drew ?_ | refine blk_alloc ?_ _)); exact BK137.out) hb)
            have n1_ := Aside0.mk (below_step (by repeat (first | (with_reducible first | exact HB.out | apply below_alloc | apply pw_below_drewN | apply below_drew1 | refine below_set ?_ GE137.out) | exact HB.out)) hb)
            clear BK137
            clear HB
            have BK137 := n0_
            have HB := n1_
            clear n0_ n1_
            (try clear hb)
            (try clear hb2)
            (try clear hk)
            (try clear hi)
            refine hK.out _ _ ⟨(blk_cell BK137.out 0).trans rfl, (blk_cell BK137.out 1).trans rfl, (blk_cell BK137.out 2).trans rfl, (blk_cell BK137.out 3).trans rfl, (blk_cell BK137.out 4).trans rfl, (blk_cell BK137.out 5).trans rfl, (blk_cell BK137.out 6).trans rfl⟩ (fun hHeld => ?_)
            clear hK K
            refine norm_ (a' := ?_) ?_ ?_
            rotate_left
            · show Act.put _ (some 48) _ = _
              simp only [Act.put, List.setIfInBounds_toArray, List.set_cons_zero, List.set_cons_succ, i64_w, i32_w]
              rfl
            refine one_ (i := 5) (N := some 51) #[true, true, true, true, true, true, false, false, false, false, false, false, false, false, false, false, false] rfl rfl (one_of HT_.out (by kernel_rfl)) (by decide) (fun K hK => ?_)
            refine goes_ Try.func12 (by kernel_rfl) rfl #[.agg #[.int .i64 a0_0, .int .u32 a0_1, .int .u32 a0_2, .int .u32 a0_3, .int .u32 a0_4, .int .u32 a0_5, .int .u32 a0_6], .int .i64 t139] (by rfl) rfl rfl (by (try simp only [List.map_toArray, List.map_cons, List.map_nil]); first | done | rfl | (simp only [List.length_drop, List.length_take]; rfl)) ?_
            with_reducible refine (zoneinforef14_Lengths.calls a0_0 a0_1 a0_2 a0_3 a0_4 a0_5 a0_6 t139 t150 t151 t152 t153 t154 t155 t156 _ A21.out).mono ?_
            rintro e w27 ⟨rfl, hb⟩
            refine ⟨_, rfl, ?_⟩
            have n0_ := Aside0.mk (blk_below (g := gb137) (o := .cells #[.int .i64 a0_0, .int .u32 a0_1, .int .u32 a0_2, .int .u32 a0_3, .int .u32 a0_4, .int .u32 a0_5, .int .u32 a0_6] 24 (0, 0)) (by (with_reducible repeat (first | refine blk_drewN ?_ _ | refine blk_drew ?_ | refine blk_alloc ?_ _)); exact BK137.out) hb)
            have n1_ := Aside0.mk (below_step (by repeat (first | (with_reducible first | exact HB.out | apply below_alloc | apply pw_below_drewN | apply below_drew1 | refine below_set ?_ GE137.out) | exact HB.out)) hb)
            clear BK137
            clear HB
            have BK137 := n0_
            have HB := n1_
            clear n0_ n1_
            (try clear hb)
            (try clear hb2)
            (try clear hk)
            (try clear hi)
            refine hK.out _ _ ⟨(blk_cell BK137.out 0).trans rfl, (blk_cell BK137.out 1).trans rfl, (blk_cell BK137.out 2).trans rfl, (blk_cell BK137.out 3).trans rfl, (blk_cell BK137.out 4).trans rfl, (blk_cell BK137.out 5).trans rfl, (blk_cell BK137.out 6).trans rfl⟩ (fun hHeld => ?_)
            clear hK K
            refine norm_ (a' := ?_) ?_ ?_
            rotate_left
            · show Act.put _ (some 51) _ = _
              simp only [Act.put, List.setIfInBounds_toArray, List.set_cons_zero, List.set_cons_succ, i64_w, i32_w]
              rfl
            refine pure_ (i := 6) (N := some 52) (v := ?_) (a' := ?_) #[true, true, true, true, true, true, true, false, false, false, false, false, false, false, false, false, false] rfl rfl (any_of HT_.out (by kernel_rfl)) (fun _ _ _ h => h) (Or.inl ⟨by rfl, ?_⟩) ?_ ?_
            rotate_left
            · intro w'
              go_simp
              with_reducible rfl
            rotate_left
            · simp only [Act.put, List.setIfInBounds_toArray, List.set_cons_zero, List.set_cons_succ, i64_w, i32_w]
              rfl
            refine pure_ (i := 7) (N := some 53) (v := ?_) (a' := ?_) #[true, true, true, true, true, true, true, true, false, false, false, false, false, false, false, false, false] rfl rfl (any_of HT_.out (by kernel_rfl)) (fun _ _ _ h => h) (Or.inl ⟨by rfl, ?_⟩) ?_ ?_
            rotate_left
            · intro w'
              go_simp
              with_reducible rfl
            rotate_left
            · simp only [Act.put, List.setIfInBounds_toArray, List.set_cons_zero, List.set_cons_succ, i64_w, i32_w]
              rfl
            refine pure_ (i := 9) (N := some 55) (v := ?_) (a' := ?_) #[true, true, true, true, true, true, true, true, false, true, false, false, false, false, false, false, false] rfl rfl (any_of HT_.out (by kernel_rfl)) (fun _ _ _ h => h) (Or.inl ⟨by rfl, ?_⟩) ?_ ?_
            rotate_left
            · intro w'
              go_simp
              with_reducible rfl
            rotate_left
            · simp only [Act.put, List.setIfInBounds_toArray, List.set_cons_zero, List.set_cons_succ, i64_w, i32_w]
              rfl
            refine pure_ (i := 12) (N := some 58) (v := ?_) (a' := ?_) #[true, true, true, true, true, true, true, true, false, true, false, false, true, false, false, false, false] rfl rfl (any_of HT_.out (by kernel_rfl)) (fun _ _ _ h => h) (Or.inl ⟨by rfl, ?_⟩) ?_ ?_
            rotate_left
            · intro w'
              go_simp
              with_reducible rfl
            rotate_left
            · simp only [Act.put, List.setIfInBounds_toArray, List.set_cons_zero, List.set_cons_succ, i64_w, i32_w]
              rfl
            refine take_ (i := 8) (N := some 54) (v := ?_) (a' := ?_) #[true, true, true, true, true, true, true, true, true, true, false, false, true, false, false, false, false] rfl rfl (take_ofW HT_.out HW_.out (by kernel_rfl)) (fun _ _ _ h => h) (Or.inl ⟨by rfl, ?_⟩) hHeld ?_ ?_
            rotate_left
            · rintro w' ⟨s0, s1, s2, s3, s4, s5, s6⟩
              go_simp
              with_reducible rfl
            rotate_left
            · simp only [Act.put, List.setIfInBounds_toArray, List.set_cons_zero, List.set_cons_succ, i64_w, i32_w]
              rfl
            refine take_ (i := 11) (N := some 57) (v := ?_) (a' := ?_) #[true, true, true, true, true, true, true, true, true, true, false, true, true, false, false, false, false] rfl rfl (take_ofW HT_.out HW_.out (by kernel_rfl)) (fun _ _ _ h => h) (Or.inl ⟨by rfl, ?_⟩) hHeld ?_ ?_
            rotate_left
            · rintro w' ⟨s0, s1, s2, s3, s4, s5, s6⟩
              go_simp
              with_reducible rfl
            rotate_left
            · simp only [Act.put, List.setIfInBounds_toArray, List.set_cons_zero, List.set_cons_succ, i64_w, i32_w]
              rfl
            refine one_ (i := 10) (N := some 56) #[true, true, true, true, true, true, true, true, true, true, true, true, true, false, false, false, false] rfl rfl (one_of HT_.out (by kernel_rfl)) (by decide) (fun K hK => ?_)
            refine goes_ Try.func13 (by kernel_rfl) rfl #[.agg #[.int .i64 a0_0, .int .u32 a0_1, .int .u32 a0_2, .int .u32 a0_3, .int .u32 a0_4, .int .u32 a0_5, .int .u32 a0_6], .int .i64 t139] (by rfl) rfl rfl (by (try simp only [List.map_toArray, List.map_cons, List.map_nil]); first | done | rfl | (simp only [List.length_drop, List.length_take]; rfl)) ?_
            with_reducible refine (layout_Offsets.calls a0_0 a0_1 a0_2 a0_3 a0_4 a0_5 a0_6 t139 t157 t158 t159 t160 t161 t162 t163 t164 _ A23.out).mono ?_
            rintro e w28 ⟨rfl, hb⟩
            refine ⟨_, rfl, ?_⟩
            have n0_ := Aside0.mk (blk_below (g := gb137) (o := .cells #[.int .i64 a0_0, .int .u32 a0_1, .int .u32 a0_2, .int .u32 a0_3, .int .u32 a0_4, .int .u32 a0_5, .int .u32 a0_6] 24 (0, 0)) (by (with_reducible repeat (first | refine blk_drewN ?_ _ | refine blk_drew ?_ | refine blk_alloc ?_ _)); exact BK137.out) hb)
            have n1_ := Aside0.mk (below_step (by repeat (first | (with_reducible first | exact HB.out | apply below_alloc | apply pw_below_drewN | apply below_drew1 | refine below_set ?_ GE137.out) | exact HB.out)) hb)
            clear BK137
            clear HB
            have BK137 := n0_
            have HB := n1_
            clear n0_ n1_
            (try clear hb)
            (try clear hb2)
            (try clear hk)
            (try clear hi)
            refine hK.out _ _ ⟨(blk_cell BK137.out 0).trans rfl, (blk_cell BK137.out 1).trans rfl, (blk_cell BK137.out 2).trans rfl, (blk_cell BK137.out 3).trans rfl, (blk_cell BK137.out 4).trans rfl, (blk_cell BK137.out 5).trans rfl, (blk_cell BK137.out 6).trans rfl⟩ (fun hHeld => ?_)
            clear hK K
            refine norm_ (a' := ?_) ?_ ?_
            rotate_left
            · show Act.put _ (some 56) _ = _
              simp only [Act.put, List.setIfInBounds_toArray, List.set_cons_zero, List.set_cons_succ, i64_w, i32_w]
              rfl
            refine one_ (i := 13) (N := some 59) #[true, true, true, true, true, true, true, true, true, true, true, true, true, true, false, false, false] rfl rfl (one_of HT_.out (by kernel_rfl)) (by decide) (fun K hK => ?_)
            refine goes_ Try.func14 (by kernel_rfl) rfl #[.agg #[.int .i64 a0_0, .int .u32 a0_1, .int .u32 a0_2, .int .u32 a0_3, .int .u32 a0_4, .int .u32 a0_5, .int .u32 a0_6], .int .i64 t139] (by rfl) rfl rfl (by (try simp only [List.map_toArray, List.map_cons, List.map_nil]); first | done | rfl | (simp only [List.length_drop, List.length_take]; rfl)) ?_
            with_reducible refine (zoneinforef14_Offsets.calls a0_0 a0_1 a0_2 a0_3 a0_4 a0_5 a0_6 t139 t165 t166 t167 t168 t169 t170 t171 t172 _ A24.out).mono ?_
            rintro e w29 ⟨rfl, hb⟩
            refine ⟨_, rfl, ?_⟩
            have n0_ := Aside0.mk (blk_below (g := gb137) (o := .cells #[.int .i64 a0_0, .int .u32 a0_1, .int .u32 a0_2, .int .u32 a0_3, .int .u32 a0_4, .int .u32 a0_5, .int .u32 a0_6] 24 (0, 0)) (by (with_reducible repeat (first | refine blk_drewN ?_ _ | refine blk_drew ?_ | refine blk_alloc ?_ _)); exact BK137.out) hb)
            have n1_ := Aside0.mk (below_step (by repeat (first | (with_reducible first | exact HB.out | apply below_alloc | apply pw_below_drewN | apply below_drew1 | refine below_set ?_ GE137.out) | exact HB.out)) hb)
            clear BK137
            clear HB
            have BK137 := n0_
            have HB := n1_
            clear n0_ n1_
            (try clear hb)
            (try clear hb2)
            (try clear hk)
            (try clear hi)
            refine hK.out _ _ ⟨(blk_cell BK137.out 0).trans rfl, (blk_cell BK137.out 1).trans rfl, (blk_cell BK137.out 2).trans rfl, (blk_cell BK137.out 3).trans rfl, (blk_cell BK137.out 4).trans rfl, (blk_cell BK137.out 5).trans rfl, (blk_cell BK137.out 6).trans rfl⟩ (fun hHeld => ?_)
            clear hK K
            refine norm_ (a' := ?_) ?_ ?_
            rotate_left
            · show Act.put _ (some 59) _ = _
              simp only [Act.put, List.setIfInBounds_toArray, List.set_cons_zero, List.set_cons_succ, i64_w, i32_w]
              rfl
            refine pure_ (i := 14) (N := some 60) (v := ?_) (a' := ?_) #[true, true, true, true, true, true, true, true, true, true, true, true, true, true, true, false, false] rfl rfl (any_of HT_.out (by kernel_rfl)) (fun _ _ _ h => h) (Or.inl ⟨by rfl, ?_⟩) ?_ ?_
            rotate_left
            · intro w'
              go_simp
              with_reducible rfl
            rotate_left
            · simp only [Act.put, List.setIfInBounds_toArray, List.set_cons_zero, List.set_cons_succ, i64_w, i32_w]
              rfl
            refine pure_ (i := 15) (N := some 61) (v := ?_) (a' := ?_) #[true, true, true, true, true, true, true, true, true, true, true, true, true, true, true, true, false] rfl rfl (any_of HT_.out (by kernel_rfl)) (fun _ _ _ h => h) (Or.inl ⟨by rfl, ?_⟩) ?_ ?_
            rotate_left
            · intro w'
              go_simp
              with_reducible rfl
            rotate_left
            · simp only [Act.put, List.setIfInBounds_toArray, List.set_cons_zero, List.set_cons_succ, i64_w, i32_w]
              rfl
            refine pure_ (i := 16) (N := some 6) (v := ?_) (a' := ?_) #[true, true, true, true, true, true, true, true, true, true, true, true, true, true, true, true, true] rfl rfl (any_of HT_.out (by kernel_rfl)) (fun _ _ _ h => h) (Or.inl ⟨by rfl, ?_⟩) ?_ ?_
            rotate_left
            · intro w'
              go_simp
              with_reducible rfl
            rotate_left
            · simp only [Act.put, List.setIfInBounds_toArray, List.set_cons_zero, List.set_cons_succ, i64_w, i32_w]
              rfl
            refine done_ (done_of HT_.out (by kernel_rfl)) ?_
            try go_wp2
            go_ret
            exact ⟨by first | rfl | (simp [errW_none, errW_some] <;> rfl) | (simp [*, errW_none, errW_some] <;> rfl), by repeat (first | (with_reducible first | exact HB.out | apply below_alloc | apply pw_below_drewN | apply below_drew1 | refine below_set ?_ GE137.out) | exact HB.out)⟩
          · rw [if_neg c22] at H
            exact absurd H (by simp)
  · replace c5 := Bool.eq_false_iff.mpr c5
    subst c5
    have H1 : (none) = some r := by rw [if_neg (show ¬ (false = true) by decide)] at H; exact H
    clear H
    have H := H1
    clear H1
    exact absurd H (by simp)

/-- THE ONE PURE STATEMENT of zoneinfolaw14_LayoutMatchesReference: yours. -/
def zoneinfolaw14_LayoutMatchesReference.Pure : Prop := ∀ (a0_0 : Int) (a0_1 : Int) (a0_2 : Int) (a0_3 : Int) (a0_4 : Int) (a0_5 : Int) (a0_6 : Int) (a1 : Bool) (a2 : Int), (Lit.int .i64 a0_0).wf = true → (Lit.int .u32 a0_1).wf = true → (Lit.int .u32 a0_2).wf = true → (Lit.int .u32 a0_3).wf = true → (Lit.int .u32 a0_4).wf = true → (Lit.int .u32 a0_5).wf = true → (Lit.int .u32 a0_6).wf = true → (Lit.int .u64 a2).wf = true → ∃ k, zoneinfolaw14_LayoutMatchesReference.f k a0_0 a0_1 a0_2 a0_3 a0_4 a0_5 a0_6 a1 a2 = some true
theorem zoneinfolaw14_LayoutMatchesReference.walk (P : zoneinfolaw14_LayoutMatchesReference.Pure) (a0_0 : Int) (a0_1 : Int) (a0_2 : Int) (a0_3 : Int) (a0_4 : Int) (a0_5 : Int) (a0_6 : Int) (a1 : Bool) (a2 : Int) (w : World) (w0_0 : (Lit.int .i64 a0_0).wf = true) (w0_1 : (Lit.int .u32 a0_1).wf = true) (w0_2 : (Lit.int .u32 a0_2).wf = true) (w0_3 : (Lit.int .u32 a0_3).wf = true) (w0_4 : (Lit.int .u32 a0_4).wf = true) (w0_5 : (Lit.int .u32 a0_5).wf = true) (w0_6 : (Lit.int .u32 a0_6).wf = true) (w2 : (Lit.int .u64 a2).wf = true) :
    Calls Try.prog 3 #[.agg #[.int .i64 a0_0, .int .u32 a0_1, .int .u32 a0_2, .int .u32 a0_3, .int .u32 a0_4, .int .u32 a0_5, .int .u32 a0_6], .bool a1, .int .u64 a2] w fun e w' => e = .returned (.bool true) ∧ Below w.heap.size w w' := by
  obtain ⟨k, h⟩ := P a0_0 a0_1 a0_2 a0_3 a0_4 a0_5 a0_6 a1 a2 w0_0 w0_1 w0_2 w0_3 w0_4 w0_5 w0_6 w2
  refine (zoneinfolaw14_LayoutMatchesReference.calls k a0_0 a0_1 a0_2 a0_3 a0_4 a0_5 a0_6 a1 a2 true w h).mono ?_
  rintro e w' ⟨rfl, hd⟩
  exact ⟨rfl, hd⟩

/-! ### zoneinfolaw14_LayoutSectionsAddUp: function 4 -/
def zoneinfolaw14_LayoutSectionsAddUp.f (a0_0 : Int) (a0_1 : Int) (a0_2 : Int) (a0_3 : Int) (a0_4 : Int) (a0_5 : Int) (a0_6 : Int) (a1 : Bool) : Option Bool := some true
/-- What the walk asks of the plain functions. -/
def zoneinfolaw14_LayoutSectionsAddUp.Pure : Prop := ∀ (a0_0 : Int) (a0_1 : Int) (a0_2 : Int) (a0_3 : Int) (a0_4 : Int) (a0_5 : Int) (a0_6 : Int) (a1 : Bool), (Lit.int .i64 a0_0).wf = true → (Lit.int .u32 a0_1).wf = true → (Lit.int .u32 a0_2).wf = true → (Lit.int .u32 a0_3).wf = true → (Lit.int .u32 a0_4).wf = true → (Lit.int .u32 a0_5).wf = true → (Lit.int .u32 a0_6).wf = true → ∃ s x0 x1 x2 x3 x4 x5 x6 x7 y0 y1 y2 y3 y4 y5 y6 m : Int, zoneinfolaw14_awake.f = some true ∧ zoneinforef14_Size.f a1 = some s ∧ layout_Offsets.f a0_0 a0_1 a0_2 a0_3 a0_4 a0_5 a0_6 s = some (x0, x1, x2, x3, x4, x5, x6, x7) ∧ layout_Lengths.f a0_0 a0_1 a0_2 a0_3 a0_4 a0_5 a0_6 s = some (y0, y1, y2, y3, y4, y5, y6) ∧ x0 = 0 ∧
  (∀ k, k < 7 → IntKind.u64.wrap ((pick8 x0 x1 x2 x3 x4 x5 x6 x7) (k + 1) - (pick8 x0 x1 x2 x3 x4 x5 x6 x7) k) = (pick7 y0 y1 y2 y3 y4 y5 y6) k ∧ (pick8 x0 x1 x2 x3 x4 x5 x6 x7) k ≤ (pick8 x0 x1 x2 x3 x4 x5 x6 x7) (k + 1)) ∧ layout_Total.f a0_0 a0_1 a0_2 a0_3 a0_4 a0_5 a0_6 s x7 = some (x7, true) ∧ (x7 ≠ 0 → layout_Total.f a0_0 a0_1 a0_2 a0_3 a0_4 a0_5 a0_6 s (IntKind.u64.wrap (x7 - 1)) = some (m, false))
set_option maxHeartbeats 8000000 in
set_option maxRecDepth 100000 in
theorem zoneinfolaw14_LayoutSectionsAddUp.walk (P : zoneinfolaw14_LayoutSectionsAddUp.Pure) (a0_0 : Int) (a0_1 : Int) (a0_2 : Int) (a0_3 : Int) (a0_4 : Int) (a0_5 : Int) (a0_6 : Int) (a1 : Bool) (w : World) (w0_0 : (Lit.int .i64 a0_0).wf = true) (w0_1 : (Lit.int .u32 a0_1).wf = true) (w0_2 : (Lit.int .u32 a0_2).wf = true) (w0_3 : (Lit.int .u32 a0_3).wf = true) (w0_4 : (Lit.int .u32 a0_4).wf = true) (w0_5 : (Lit.int .u32 a0_5).wf = true) (w0_6 : (Lit.int .u32 a0_6).wf = true) :
    Calls Try.prog 4 #[.agg #[.int .i64 a0_0, .int .u32 a0_1, .int .u32 a0_2, .int .u32 a0_3, .int .u32 a0_4, .int .u32 a0_5, .int .u32 a0_6], .bool a1] w fun e w' => e = .returned (.bool true) ∧ Below w.heap.size w w' := by
  obtain ⟨s, x0, x1, x2, x3, x4, x5, x6, x7, y0, y1, y2, y3, y4, y5, y6, m, h1, h2, h3, h4, rfl, h5, h6, h7⟩ := P a0_0 a0_1 a0_2 a0_3 a0_4 a0_5 a0_6 a1 w0_0 w0_1 w0_2 w0_3 w0_4 w0_5 w0_6
  clear P w0_0 w0_1 w0_2 w0_3 w0_4 w0_5 w0_6
  have H1 := Aside0.mk h1
  have H2 := Aside0.mk h2
  have H3 := Aside0.mk h3
  have H4 := Aside0.mk h4
  have H5 := Aside0.mk h5
  have H6 := Aside0.mk h6
  have H7 := Aside0.mk h7
  clear h1 h2 h3 h4 h5 h6 h7
  have HB := Aside0.mk (Below.refl w.heap.size w)
  go_enter Try.func4, Try.ntmps4
  (try simp only [List.append_eq, List.cons_append, List.nil_append])
  go_upto_region 6 with (first
    | ((with_reducible refine gate_dst (N := 2) rfl ?_); refine box_event ?hg (N := 2) ?hd (cs := #[.int .i64 a0_0, .int .u32 a0_1, .int .u32 a0_2, .int .u32 a0_3, .int .u32 a0_4, .int .u32 a0_5, .int .u32 a0_6]) (t := 24) ?hr ?_; (case hd => rfl); (case hg => rfl); (case hr => first | (go_simp; done) | (go_simp; rfl)); intro g2 hg2 w1 hk2 hb1; have n2 := Aside0.mk (Nat.le_trans HB.out.size (Nat.le_of_eq hg2.symm)); have n1 := Aside0.mk (below_step HB.out hb1); clear HB; have HB := n1; have GE2 := n2; clear n1 n2; have K2 := Aside0.mk hk2; clear hk2 hb1 hg2)
    | (go_at_call 7; (with_reducible refine (zoneinfolaw14_awake.calls true _ H1.out).mono ?_); rintro e w2 ⟨rfl, hb⟩; have n1 := Aside0.mk (below_step HB.out hb); have m2 := Aside0.mk (blk_below K2.out hb); clear HB K2 hb; have HB := n1; have K2 := m2; clear n1 m2)
    | (go_at_call 8; (with_reducible refine (zoneinforef14_Size.calls a1 s _ H2.out).mono ?_); rintro e w3 ⟨rfl, hd⟩; have hb := hd.below; have n1 := Aside0.mk (below_step HB.out hb); have m2 := Aside0.mk (blk_below K2.out hb); clear HB K2 hb hd; have HB := n1; have K2 := m2; clear n1 m2)
    | ((with_reducible refine gate_dst (N := 17) rfl ?_); refine wpList_load_row rfl 24 _ rfl g2 rfl 24 _ (0, 0) _ K2.out Try.underlying24 rfl (by kernel_rfl) ?_)
    | ((with_reducible refine gate_dst (N := 20) rfl ?_); refine wpList_load_row rfl 24 _ rfl g2 rfl 24 _ (0, 0) _ K2.out Try.underlying24 rfl (by kernel_rfl) ?_)
    | (go_at_call 13; (with_reducible refine (layout_Offsets.calls a0_0 a0_1 a0_2 a0_3 a0_4 a0_5 a0_6 s 0 x1 x2 x3 x4 x5 x6 x7 _ H3.out).mono ?_); rintro e w4 ⟨rfl, hb⟩; have n1 := Aside0.mk (below_step HB.out hb); have m2 := Aside0.mk (blk_below K2.out hb); clear HB K2 hb; have HB := n1; have K2 := m2; clear n1 m2; rw [row8])
    | ((with_reducible refine gate_dst (N := 6) rfl ?_); refine box_event ?hg (N := 6) ?hd (cs := rowU (fun _ => 0) 8) (t := 33) ?hr ?_; (case hd => rfl); (case hg => rfl); (case hr => first | (go_simp; done) | (go_simp; rfl)); intro g6 hg6 w5 hk6 hb1; have m2 := Aside0.mk (blk_below K2.out hb1); have NE2_6 := Aside0.mk (show g2 ≠ g6 by rw [hg6]; exact Nat.ne_of_lt (blk_lt K2.out)); clear K2; have K2 := m2; clear m2; have n2 := Aside0.mk (Nat.le_trans HB.out.size (Nat.le_of_eq hg6.symm)); have n1 := Aside0.mk (below_step HB.out hb1); clear HB; have HB := n1; have GE6 := n2; clear n1 n2; have K6 := Aside0.mk hk6; clear hk6 hb1 hg6)
    | (refine row_store rfl 33 6 _ rfl rfl g6 rfl rfl K6.out (by kernel_rfl) rfl (rowU_one _ _) ?_; intro w6 hk hoth hb hsz1; have m2 := Aside0.mk (hoth g2 _ NE2_6.out K2.out); have n1 := Aside0.mk (hb _ _ GE6.out HB.out); have n2 := Aside0.mk hk; clear HB K6 K2 hb hk hoth hsz1; have HB := n1; have K6 := n2; have K2 := m2; clear n1 n2 m2)
    | (go_at_call 11; (with_reducible refine (layout_Lengths.calls a0_0 a0_1 a0_2 a0_3 a0_4 a0_5 a0_6 s y0 y1 y2 y3 y4 y5 y6 _ H4.out).mono ?_); rintro e w7 ⟨rfl, hb⟩; have n1 := Aside0.mk (below_step HB.out hb); have m2 := Aside0.mk (blk_below K2.out hb); have m6 := Aside0.mk (blk_below K6.out hb); clear HB K2 K6 hb; have HB := n1; have K2 := m2; have K6 := m6; clear n1 m2 m6; rw [row7])
    | ((with_reducible refine gate_dst (N := 7) rfl ?_); refine box_event ?hg (N := 7) ?hd (cs := rowU (fun _ => 0) 7) (t := 31) ?hr ?_; (case hd => rfl); (case hg => rfl); (case hr => first | (go_simp; done) | (go_simp; rfl)); intro g7 hg7 w8 hk7 hb1; have m2 := Aside0.mk (blk_below K2.out hb1); have NE2_7 := Aside0.mk (show g2 ≠ g7 by rw [hg7]; exact Nat.ne_of_lt (blk_lt K2.out)); clear K2; have K2 := m2; clear m2; have m6 := Aside0.mk (blk_below K6.out hb1); have NE6_7 := Aside0.mk (show g6 ≠ g7 by rw [hg7]; exact Nat.ne_of_lt (blk_lt K6.out)); clear K6; have K6 := m6; clear m6; have n2 := Aside0.mk (Nat.le_trans HB.out.size (Nat.le_of_eq hg7.symm)); have n1 := Aside0.mk (below_step HB.out hb1); clear HB; have HB := n1; have GE7 := n2; clear n1 n2; have K7 := Aside0.mk hk7; clear hk7 hb1 hg7)
    | (refine row_store rfl 31 7 _ rfl rfl g7 rfl rfl K7.out (by kernel_rfl) rfl (rowU_one _ _) ?_; intro w9 hk hoth hb hsz1; have m2 := Aside0.mk (hoth g2 _ NE2_7.out K2.out); have m6 := Aside0.mk (hoth g6 _ NE6_7.out K6.out); have n1 := Aside0.mk (hb _ _ GE7.out HB.out); have n2 := Aside0.mk hk; clear HB K7 K2 K6 hb hk hoth hsz1; have HB := n1; have K7 := n2; have K2 := m2; have K6 := m6; clear n1 n2 m2 m6))
  have hc0 := (blk_cell K6.out 0).trans (rowU_get _ 8 0 (by omega))
  rw [show (pick8 0 x1 x2 x3 x4 x5 x6 x7) 0 = 0 from rfl] at hc0
  go_wp2
  clear hc0
  go_loopw [8] (fun i wr => ∃ k : Nat, k ≤ 7 ∧ i = .int .i64 (k : Int) ∧ Aside0 (wr.heap[g2]? = some (.cells #[.int .i64 a0_0, .int .u32 a0_1, .int .u32 a0_2, .int .u32 a0_3, .int .u32 a0_4, .int .u32 a0_5, .int .u32 a0_6] 24 (0, 0))) ∧ Aside0 (wr.heap[g6]? = some (.cells (rowU (pick8 0 x1 x2 x3 x4 x5 x6 x7) 8) 33 (0, 0))) ∧ Aside0 (wr.heap[g7]? = some (.cells (rowU (pick7 y0 y1 y2 y3 y4 y5 y6) 7) 31 (0, 0))) ∧ Aside0 (Below w.heap.size w wr)) (fun i _ => 7 - (intOf i).toNat)
  case atStart => exact ⟨0, by omega, rfl, K2, K6, K7, HB⟩
  case round =>
    clear K2 K6 K7 HB
    obtain ⟨k, hk, rfl, K2, K6, K7, HB⟩ := hrel
    by_cases hlt : k < 7
    · obtain ⟨q1, q2⟩ := H5.out k hlt
      have hc6 := (blk_cell K6.out k).trans (rowU_get _ 8 k (by omega))
      have hc6' := (blk_cell K6.out (k + 1)).trans (rowU_get _ 8 (k + 1) (by omega))
      have hc7 := (blk_cell K7.out k).trans (rowU_get _ 7 k hlt)
      generalize (pick8 0 x1 x2 x3 x4 x5 x6 x7) k = a at hc6 q1 q2
      generalize (pick8 0 x1 x2 x3 x4 x5 x6 x7) (k + 1) = b at hc6' q1 q2
      generalize (pick7 y0 y1 y2 y3 y4 y5 y6) k = c at hc7 q1
      have Q1 := Aside0.mk q1
      have c1 : decide ((k : Int) < 7) = true := decide_eq_true (by omega)
      have c2 : decide (b < a) = false := decide_eq_false (by omega)
      have c3 : (IntKind.u64.wrap (b - a) != c) = false := by rw [q1]; simp
      have c4 : (IntKind.u64.wrap (b - a) == c) = true := by rw [q1]; simp
      have e1 : ((k : Int) + 1).toNat = k + 1 := by omega
      clear q1 q2
      go_wp2
      go_quiet (fail)
      go_wp2
      go_roundw
      case rel => exact ⟨k + 1, by omega, by go_num, ⟨blk_drewN K2.out _⟩, ⟨blk_drewN K6.out _⟩, ⟨blk_drewN K7.out _⟩, ⟨pw_below_drewN HB.out _⟩⟩
      case measure => simp [intOf]; omega
    · have c1 : decide ((k : Int) < 7) = false := decide_eq_false (by omega)
      obtain rfl : k = 7 := by omega
      have hc7 := (blk_cell K6.out 7).trans (rowU_get _ 8 7 (by omega))
      rw [show (pick8 0 x1 x2 x3 x4 x5 x6 x7) 7 = x7 from rfl] at hc7
      by_cases hz : x7 = 0
      · have bz : (x7 == 0) = true := by rw [hz]; rfl
        clear hz
        go_wp2_with (first
          | ((with_reducible refine gate_dst (N := 53) rfl ?_); refine wpList_load_row rfl 24 _ rfl g2 rfl 24 _ (0, 0) _ K2.out Try.underlying24 rfl (by kernel_rfl) ?_)
          | (go_at_call 9; (with_reducible refine (layout_Total.calls a0_0 a0_1 a0_2 a0_3 a0_4 a0_5 a0_6 s x7 x7 true _ H6.out).mono ?_); rintro e w10 ⟨rfl, hb⟩; have n1 := Aside0.mk (below_step HB.out hb); have m2 := Aside0.mk (blk_below K2.out hb); have m6 := Aside0.mk (blk_below K6.out hb); clear HB K2 K6 hb; have HB := n1; have K2 := m2; have K6 := m6; clear n1 m2 m6; clear hc7; have hc7 := (blk_cell K6.out 7).trans (rowU_get _ 8 7 (by omega)); rw [show (pick8 0 x1 x2 x3 x4 x5 x6 x7) 7 = x7 from rfl] at hc7))
        go_ret
        exact ⟨rfl, HB.out⟩
      · have H8 := Aside0.mk (H7.out hz)
        have bz : (x7 == 0) = false := beq_eq_false_iff_ne.mpr hz
        have bz2 : (x7 != 0) = true := bne_iff_ne.mpr hz
        clear hz
        go_wp2_with (first
          | ((with_reducible refine gate_dst (N := 53) rfl ?_); refine wpList_load_row rfl 24 _ rfl g2 rfl 24 _ (0, 0) _ K2.out Try.underlying24 rfl (by kernel_rfl) ?_)
          | ((with_reducible refine gate_dst (N := 71) rfl ?_); refine wpList_load_row rfl 24 _ rfl g2 rfl 24 _ (0, 0) _ K2.out Try.underlying24 rfl (by kernel_rfl) ?_)
          | (go_at_call 9; (with_reducible refine (layout_Total.calls a0_0 a0_1 a0_2 a0_3 a0_4 a0_5 a0_6 s x7 x7 true _ H6.out).mono ?_); rintro e w10 ⟨rfl, hb⟩; have n1 := Aside0.mk (below_step HB.out hb); have m2 := Aside0.mk (blk_below K2.out hb); have m6 := Aside0.mk (blk_below K6.out hb); clear HB K2 K6 hb; have HB := n1; have K2 := m2; have K6 := m6; clear n1 m2 m6; clear hc7; have hc7 := (blk_cell K6.out 7).trans (rowU_get _ 8 7 (by omega)); rw [show (pick8 0 x1 x2 x3 x4 x5 x6 x7) 7 = x7 from rfl] at hc7)
          | (go_at_call 9; (with_reducible refine (layout_Total.calls a0_0 a0_1 a0_2 a0_3 a0_4 a0_5 a0_6 s (IntKind.u64.wrap (x7 - 1)) m false _ H8.out).mono ?_); rintro e w11 ⟨rfl, hb⟩; have n1 := Aside0.mk (below_step HB.out hb); have m2 := Aside0.mk (blk_below K2.out hb); have m6 := Aside0.mk (blk_below K6.out hb); clear HB K2 K6 hb; have HB := n1; have K2 := m2; have K6 := m6; clear n1 m2 m6))
        go_ret
        exact ⟨rfl, HB.out⟩

end Go.Proofs.Ytnhlnbpkpalgdaa.G
