/- Written by a program of this session for this seat: contracts of the functions that its laws reach, or the row of a law over its plain part. -/
import Derived.Test.YtnhlnbpkpalgdaaGx0
import Derived.Test.YtnhlnbpkpalgdaaGx1
import Derived.Test.YtnhlnbpkpalgdaaGx2
namespace Go.Proofs.Ytnhlnbpkpalgdaa.G
open Go.RowKit Go.Proofs.YtnhlnbpkpalgdaaW.PrintWords Go.Proofs.YtnhlnbpkpalgdaaW.PrintLast Go.Proofs.YtnhlnbpkpalgdaaW.PrintMore
attribute [local go_sem] max2_int min2_int max_two min_two max_three min_three max_four min_four   -- for this text's walks alone
set_option linter.unusedVariables false
set_option linter.unusedSimpArgs false

attribute [local go_sem high] eqA31 eqA33
/-! ### layout_parts: function 15 -/
def layout_parts.f (a0_0 : Int) (a0_1 : Int) (a0_2 : Int) (a0_3 : Int) (a0_4 : Int) (a0_5 : Int) (a0_6 : Int) (a1 : Int) : Option (Int × Int × Int × Int × Int × Int × Int × Int × Int × Int × Int × Int × Int × Int) := some (IntKind.u64.wrap (a0_4), IntKind.u64.wrap (a0_4), IntKind.u64.wrap (a0_5), IntKind.u64.wrap (a0_6), IntKind.u64.wrap (a0_3), IntKind.u64.wrap (a0_2), IntKind.u64.wrap (a0_1), IntKind.u64.wrap (a1), 1, 6, 1, IntKind.u64.wrap ((IntKind.u64.wrap (a1)) + 4), 1, 1)
set_option maxHeartbeats 8000000 in
set_option maxRecDepth 100000 in
theorem layout_parts.calls (a0_0 : Int) (a0_1 : Int) (a0_2 : Int) (a0_3 : Int) (a0_4 : Int) (a0_5 : Int) (a0_6 : Int) (a1 : Int) (r1 : Int) (r2 : Int) (r3 : Int) (r4 : Int) (r5 : Int) (r6 : Int) (r7 : Int) (r8 : Int) (r9 : Int) (r10 : Int) (r11 : Int) (r12 : Int) (r13 : Int) (r14 : Int) (w : World) (h : layout_parts.f a0_0 a0_1 a0_2 a0_3 a0_4 a0_5 a0_6 a1 = some (r1, r2, r3, r4, r5, r6, r7, r8, r9, r10, r11, r12, r13, r14)) :
    Calls Try.prog 15 #[.agg #[.int .i64 a0_0, .int .u32 a0_1, .int .u32 a0_2, .int .u32 a0_3, .int .u32 a0_4, .int .u32 a0_5, .int .u32 a0_6], .int .i64 a1] w fun e w' => e = .returned (.tuple #[.agg #[.int .u64 r1, .int .u64 r2, .int .u64 r3, .int .u64 r4, .int .u64 r5, .int .u64 r6, .int .u64 r7], .agg #[.int .u64 r8, .int .u64 r9, .int .u64 r10, .int .u64 r11, .int .u64 r12, .int .u64 r13, .int .u64 r14]]) ∧ Below w.heap.size w w' := by
  have hu24 := Try.underlying24
  have hu31 := Try.underlying31
  have HB := Aside0.mk (Below.refl w.heap.size w)
  have H : (some (IntKind.u64.wrap (a0_4), IntKind.u64.wrap (a0_4), IntKind.u64.wrap (a0_5), IntKind.u64.wrap (a0_6), IntKind.u64.wrap (a0_3), IntKind.u64.wrap (a0_2), IntKind.u64.wrap (a0_1), IntKind.u64.wrap (a1), 1, 6, 1, IntKind.u64.wrap ((IntKind.u64.wrap (a1)) + 4), 1, 1)) = some (r1, r2, r3, r4, r5, r6, r7, r8, r9, r10, r11, r12, r13, r14) := h
  clear h
  simp only [Option.some.injEq, Prod.mk.injEq] at H
  obtain ⟨rfl, rfl, rfl, rfl, rfl, rfl, rfl, rfl, rfl, rfl, rfl, rfl, rfl, rfl⟩ := H
  go_enter Try.func15, Try.ntmps15
  go_wp2_with (first | ((with_reducible refine gate_dst (N := 2) rfl ?_); refine box_event ?hg (N := 2) ?hd (cs := #[.int .i64 a0_0, .int .u32 a0_1, .int .u32 a0_2, .int .u32 a0_3, .int .u32 a0_4, .int .u32 a0_5, .int .u32 a0_6]) (t := 24) ?hr ?_; (case hd => rfl); (case hg => rfl); (case hr => first | (go_simp; done) | (go_simp; rfl)); intro gb101 hg w3 hbox hb; have n0_ := Aside0.mk (below_step (by repeat (first | (with_reducible first | exact HB.out | apply below_alloc | apply pw_below_drewN | apply below_drew1) | exact HB.out)) hb); have n1_ := Aside0.mk (hbox); have n2_ := Aside0.mk ((by rw [hg]; exact (below_size (by repeat (first | (with_reducible first | exact HB.out | apply below_alloc | apply pw_below_drewN | apply below_drew1) | exact HB.out))) : w.heap.size ≤ gb101)); have n3_ := Aside0.mk ((by rw [hg]; exact (below_size (by repeat (first | (with_reducible first | exact HB.out | apply below_alloc | apply pw_below_drewN | apply below_drew1) | exact HB.out))) : w.heap.size ≤ gb101)); clear HB; have HB := n0_; have BK101 := n1_; have GW101 := n2_; have GE101 := n3_; clear n0_ n1_ n2_ n3_; clear hb hbox hg) | ((with_reducible refine gate_dst (N := 4) rfl ?_); refine box_event ?hg (N := 4) ?hd (cs := #[.int .u64 0, .int .u64 0, .int .u64 0, .int .u64 0, .int .u64 0, .int .u64 0, .int .u64 0]) (t := 31) ?hr ?_; (case hd => rfl); (case hg => rfl); (case hr => first | (go_simp; done) | (go_simp; rfl)); intro gb102 hg w4 hbox hb; have n0_ := Aside0.mk (blk_below (g := gb101) (o := .cells #[.int .i64 a0_0, .int .u32 a0_1, .int .u32 a0_2, .int .u32 a0_3, .int .u32 a0_4, .int .u32 a0_5, .int .u32 a0_6] 24 (0, 0)) (by (with_reducible repeat (first | refine blk_drewN ?_ _ | refine blk_drew ?_ | refine blk_alloc ?_ _)); exact BK101.out) hb); have n1_ := Aside0.mk (below_step (by repeat (first | (with_reducible first | exact HB.out | apply below_alloc | apply pw_below_drewN | apply below_drew1 | refine below_set ?_ GE101.out) | exact HB.out)) hb); have n2_ := Aside0.mk (hbox); have n3_ := Aside0.mk ((by rw [hg]; exact (below_size (by repeat (first | (with_reducible first | exact HB.out | apply below_alloc | apply pw_below_drewN | apply below_drew1 | refine below_set ?_ GE101.out) | exact HB.out))) : w.heap.size ≤ gb102)); have n4_ := Aside0.mk ((by rw [hg]; exact (below_size (by repeat (first | (with_reducible first | exact HB.out | apply below_alloc | apply pw_below_drewN | apply below_drew1 | refine below_set ?_ GE101.out) | exact HB.out))) : w.heap.size ≤ gb102)); have n5_ := Aside0.mk ((by rw [hg]; exact Nat.ne_of_lt (blk_lt (g := gb101) (o := .cells #[.int .i64 a0_0, .int .u32 a0_1, .int .u32 a0_2, .int .u32 a0_3, .int .u32 a0_4, .int .u32 a0_5, .int .u32 a0_6] 24 (0, 0)) (by (with_reducible repeat (first | refine blk_drewN ?_ _ | refine blk_drew ?_ | refine blk_alloc ?_ _)); exact BK101.out)) : gb101 ≠ gb102)); have n6_ := Aside0.mk ((by rw [hg]; exact Nat.ne_of_gt (blk_lt (g := gb101) (o := .cells #[.int .i64 a0_0, .int .u32 a0_1, .int .u32 a0_2, .int .u32 a0_3, .int .u32 a0_4, .int .u32 a0_5, .int .u32 a0_6] 24 (0, 0)) (by (with_reducible repeat (first | refine blk_drewN ?_ _ | refine blk_drew ?_ | refine blk_alloc ?_ _)); exact BK101.out)) : gb102 ≠ gb101)); clear BK101; clear HB; have BK101 := n0_; have HB := n1_; have BK102 := n2_; have GW102 := n3_; have GE102 := n4_; have NB101_102 := n5_; have NB102_101 := n6_; clear n0_ n1_ n2_ n3_ n4_ n5_ n6_; clear hb hbox hg) | ((with_reducible refine gate_dst (N := 5) rfl ?_); refine box_event ?hg (N := 5) ?hd (cs := #[.int .u64 0, .int .u64 0, .int .u64 0, .int .u64 0, .int .u64 0, .int .u64 0, .int .u64 0]) (t := 31) ?hr ?_; (case hd => rfl); (case hg => rfl); (case hr => first | (go_simp; done) | (go_simp; rfl)); intro gb103 hg w5 hbox hb; have n0_ := Aside0.mk (blk_below (g := gb101) (o := .cells #[.int .i64 a0_0, .int .u32 a0_1, .int .u32 a0_2, .int .u32 a0_3, .int .u32 a0_4, .int .u32 a0_5, .int .u32 a0_6] 24 (0, 0)) (by (with_reducible repeat (first | refine blk_drewN ?_ _ | refine blk_drew ?_ | refine blk_alloc ?_ _)); exact BK101.out) hb); have n1_ := Aside0.mk (blk_below (g := gb102) (o := .cells #[.int .u64 0, .int .u64 0, .int .u64 0, .int .u64 0, .int .u64 0, .int .u64 0, .int .u64 0] 31 (0, 0)) (by (with_reducible repeat (first | refine blk_drewN ?_ _ | refine blk_drew ?_ | refine blk_alloc ?_ _)); exact BK102.out) hb); have n2_ := Aside0.mk (below_step (by repeat (first | (with_reducible first | exact HB.out | apply below_alloc | apply pw_below_drewN | apply below_drew1 | refine below_set ?_ GE101.out | refine below_set ?_ GE102.out) | exact HB.out)) hb); have n3_ := Aside0.mk (hbox); have n4_ := Aside0.mk ((by rw [hg]; exact (below_size (by repeat (first | (with_reducible first | exact HB.out | apply below_alloc | apply pw_below_drewN | apply below_drew1 | refine below_set ?_ GE101.out | refine below_set ?_ GE102.out) | exact HB.out))) : w.heap.size ≤ gb103)); have n5_ := Aside0.mk ((by rw [hg]; exact (below_size (by repeat (first | (with_reducible first | exact HB.out | apply below_alloc | apply pw_below_drewN | apply below_drew1 | refine below_set ?_ GE101.out | refine below_set ?_ GE102.out) | exact HB.out))) : w.heap.size ≤ gb103)); have n6_ := Aside0.mk ((by rw [hg]; exact Nat.ne_of_lt (blk_lt (g := gb101) (o := .cells #[.int .i64 a0_0, .int .u32 a0_1, .int .u32 a0_2, .int .u32 a0_3, .int .u32 a0_4, .int .u32 a0_5, .int .u32 a0_6] 24 (0, 0)) (by (with_reducible repeat (first | refine blk_drewN ?_ _ | refine blk_drew ?_ | refine blk_alloc ?_ _)); exact BK101.out)) : gb101 ≠ gb103)); have n7_ := Aside0.mk ((by rw [hg]; exact Nat.ne_of_gt (blk_lt (g := gb101) (o := .cells #[.int .i64 a0_0, .int .u32 a0_1, .int .u32 a0_2, .int .u32 a0_3, .int .u32 a0_4, .int .u32 a0_5, .int .u32 a0_6] 24 (0, 0)) (by (with_reducible repeat (first | refine blk_drewN ?_ _ | refine blk_drew ?_ | refine blk_alloc ?_ _)); exact BK101.out)) : gb103 ≠ gb101)); have n8_ := Aside0.mk ((by rw [hg]; exact Nat.ne_of_lt (blk_lt (g := gb102) (o := .cells #[.int .u64 0, .int .u64 0, .int .u64 0, .int .u64 0, .int .u64 0, .int .u64 0, .int .u64 0] 31 (0, 0)) (by (with_reducible repeat (first | refine blk_drewN ?_ _ | refine blk_drew ?_ | refine blk_alloc ?_ _)); exact BK102.out)) : gb102 ≠ gb103)); have n9_ := Aside0.mk ((by rw [hg]; exact Nat.ne_of_gt (blk_lt (g := gb102) (o := .cells #[.int .u64 0, .int .u64 0, .int .u64 0, .int .u64 0, .int .u64 0, .int .u64 0, .int .u64 0] 31 (0, 0)) (by (with_reducible repeat (first | refine blk_drewN ?_ _ | refine blk_drew ?_ | refine blk_alloc ?_ _)); exact BK102.out)) : gb103 ≠ gb102)); clear BK101; clear BK102; clear HB; have BK101 := n0_; have BK102 := n1_; have HB := n2_; have BK103 := n3_; have GW103 := n4_; have GE103 := n5_; have NB101_103 := n6_; have NB103_101 := n7_; have NB102_103 := n8_; have NB103_102 := n9_; clear n0_ n1_ n2_ n3_ n4_ n5_ n6_ n7_ n8_ n9_; clear hb hbox hg; have hnb6 := NB101_102.out; have hnc6 := NB102_101.out; have hnb7 := NB101_103.out; have hnc7 := NB103_101.out; have hcz8_0 : w5.cell? ⟨gb101, 0, none⟩ = some (.int .i64 a0_0) := (blk_cell BK101.out 0).trans rfl; have hcz8_1 : w5.cell? ⟨gb101, 1, none⟩ = some (.int .u32 a0_1) := (blk_cell BK101.out 1).trans rfl; have hcz8_2 : w5.cell? ⟨gb101, 2, none⟩ = some (.int .u32 a0_2) := (blk_cell BK101.out 2).trans rfl; have hcz8_3 : w5.cell? ⟨gb101, 3, none⟩ = some (.int .u32 a0_3) := (blk_cell BK101.out 3).trans rfl; have hcz8_4 : w5.cell? ⟨gb101, 4, none⟩ = some (.int .u32 a0_4) := (blk_cell BK101.out 4).trans rfl; have hcz8_5 : w5.cell? ⟨gb101, 5, none⟩ = some (.int .u32 a0_5) := (blk_cell BK101.out 5).trans rfl; have hcz8_6 : w5.cell? ⟨gb101, 6, none⟩ = some (.int .u32 a0_6) := (blk_cell BK101.out 6).trans rfl; have hfz8_0 := blk_frozen BK101.out 0; have hfz8_1 := blk_frozen BK101.out 1; have hfz8_2 := blk_frozen BK101.out 2; have hfz8_3 := blk_frozen BK101.out 3; have hfz8_4 := blk_frozen BK101.out 4; have hfz8_5 := blk_frozen BK101.out 5; have hfz8_6 := blk_frozen BK101.out 6; have hnb9 := NB102_103.out; have hnc9 := NB103_102.out; have hcz10_0 : w5.cell? ⟨gb102, 0, none⟩ = some (.int .u64 0) := (blk_cell BK102.out 0).trans rfl; have hcz10_1 : w5.cell? ⟨gb102, 1, none⟩ = some (.int .u64 0) := (blk_cell BK102.out 1).trans rfl; have hcz10_2 : w5.cell? ⟨gb102, 2, none⟩ = some (.int .u64 0) := (blk_cell BK102.out 2).trans rfl; have hcz10_3 : w5.cell? ⟨gb102, 3, none⟩ = some (.int .u64 0) := (blk_cell BK102.out 3).trans rfl; have hcz10_4 : w5.cell? ⟨gb102, 4, none⟩ = some (.int .u64 0) := (blk_cell BK102.out 4).trans rfl; have hcz10_5 : w5.cell? ⟨gb102, 5, none⟩ = some (.int .u64 0) := (blk_cell BK102.out 5).trans rfl; have hcz10_6 : w5.cell? ⟨gb102, 6, none⟩ = some (.int .u64 0) := (blk_cell BK102.out 6).trans rfl; have hfz10_0 := blk_frozen BK102.out 0; have hfz10_1 := blk_frozen BK102.out 1; have hfz10_2 := blk_frozen BK102.out 2; have hfz10_3 := blk_frozen BK102.out 3; have hfz10_4 := blk_frozen BK102.out 4; have hfz10_5 := blk_frozen BK102.out 5; have hfz10_6 := blk_frozen BK102.out 6; have hcz11_0 : w5.cell? ⟨gb103, 0, none⟩ = some (.int .u64 0) := (blk_cell BK103.out 0).trans rfl; have hcz11_1 : w5.cell? ⟨gb103, 1, none⟩ = some (.int .u64 0) := (blk_cell BK103.out 1).trans rfl; have hcz11_2 : w5.cell? ⟨gb103, 2, none⟩ = some (.int .u64 0) := (blk_cell BK103.out 2).trans rfl; have hcz11_3 : w5.cell? ⟨gb103, 3, none⟩ = some (.int .u64 0) := (blk_cell BK103.out 3).trans rfl; have hcz11_4 : w5.cell? ⟨gb103, 4, none⟩ = some (.int .u64 0) := (blk_cell BK103.out 4).trans rfl; have hcz11_5 : w5.cell? ⟨gb103, 5, none⟩ = some (.int .u64 0) := (blk_cell BK103.out 5).trans rfl; have hcz11_6 : w5.cell? ⟨gb103, 6, none⟩ = some (.int .u64 0) := (blk_cell BK103.out 6).trans rfl; have hfz11_0 := blk_frozen BK103.out 0; have hfz11_1 := blk_frozen BK103.out 1; have hfz11_2 := blk_frozen BK103.out 2; have hfz11_3 := blk_frozen BK103.out 3; have hfz11_4 := blk_frozen BK103.out 4; have hfz11_5 := blk_frozen BK103.out 5; have hfz11_6 := blk_frozen BK103.out 6))
  refine bodyPost_ret (results_cc rfl _ _ gb102 gb103 31 31 #[.int .u64 (IntKind.u64.wrap (a0_4)), .int .u64 (IntKind.u64.wrap (a0_4)), .int .u64 (IntKind.u64.wrap (a0_5)), .int .u64 (IntKind.u64.wrap (a0_6)), .int .u64 (IntKind.u64.wrap (a0_3)), .int .u64 (IntKind.u64.wrap (a0_2)), .int .u64 (IntKind.u64.wrap (a0_1))] #[.int .u64 (IntKind.u64.wrap (a1)), .int .u64 1, .int .u64 6, .int .u64 1, .int .u64 (IntKind.u64.wrap ((IntKind.u64.wrap (a1)) + 4)), .int .u64 1, .int .u64 1] (0, 0) (0, 0) _ _ rfl (by (with_reducible repeat (first | refine blk_drewN ?_ _ | refine blk_drew ?_ | refine blk_alloc ?_ _)); refine blk_far ?_ NB102_103.out _; (with_reducible repeat (first | refine blk_drewN ?_ _ | refine blk_drew ?_ | refine blk_alloc ?_ _)); refine blk_far ?_ NB102_103.out _; (with_reducible repeat (first | refine blk_drewN ?_ _ | refine blk_drew ?_ | refine blk_alloc ?_ _)); refine blk_far ?_ NB102_103.out _; (with_reducible repeat (first | refine blk_drewN ?_ _ | refine blk_drew ?_ | refine blk_alloc ?_ _)); refine blk_far ?_ NB102_103.out _; (with_reducible repeat (first | refine blk_drewN ?_ _ | refine blk_drew ?_ | refine blk_alloc ?_ _)); refine blk_far ?_ NB102_103.out _; (with_reducible repeat (first | refine blk_drewN ?_ _ | refine blk_drew ?_ | refine blk_alloc ?_ _)); refine blk_far ?_ NB102_103.out _; (with_reducible repeat (first | refine blk_drewN ?_ _ | refine blk_drew ?_ | refine blk_alloc ?_ _)); refine blk_far ?_ NB102_103.out _; (with_reducible repeat (first | refine blk_drewN ?_ _ | refine blk_drew ?_ | refine blk_alloc ?_ _)); refine blk_put (cs := #[.int .u64 (IntKind.u64.wrap (a0_4)), .int .u64 (IntKind.u64.wrap (a0_4)), .int .u64 (IntKind.u64.wrap (a0_5)), .int .u64 (IntKind.u64.wrap (a0_6)), .int .u64 (IntKind.u64.wrap (a0_3)), .int .u64 (IntKind.u64.wrap (a0_2)), .int .u64 0]) ?_ 6 _ rfl; (with_reducible repeat (first | refine blk_drewN ?_ _ | refine blk_drew ?_ | refine blk_alloc ?_ _)); refine blk_put (cs := #[.int .u64 (IntKind.u64.wrap (a0_4)), .int .u64 (IntKind.u64.wrap (a0_4)), .int .u64 (IntKind.u64.wrap (a0_5)), .int .u64 (IntKind.u64.wrap (a0_6)), .int .u64 (IntKind.u64.wrap (a0_3)), .int .u64 0, .int .u64 0]) ?_ 5 _ rfl; (with_reducible repeat (first | refine blk_drewN ?_ _ | refine blk_drew ?_ | refine blk_alloc ?_ _)); refine blk_put (cs := #[.int .u64 (IntKind.u64.wrap (a0_4)), .int .u64 (IntKind.u64.wrap (a0_4)), .int .u64 (IntKind.u64.wrap (a0_5)), .int .u64 (IntKind.u64.wrap (a0_6)), .int .u64 0, .int .u64 0, .int .u64 0]) ?_ 4 _ rfl; (with_reducible repeat (first | refine blk_drewN ?_ _ | refine blk_drew ?_ | refine blk_alloc ?_ _)); refine blk_put (cs := #[.int .u64 (IntKind.u64.wrap (a0_4)), .int .u64 (IntKind.u64.wrap (a0_4)), .int .u64 (IntKind.u64.wrap (a0_5)), .int .u64 0, .int .u64 0, .int .u64 0, .int .u64 0]) ?_ 3 _ rfl; (with_reducible repeat (first | refine blk_drewN ?_ _ | refine blk_drew ?_ | refine blk_alloc ?_ _)); refine blk_put (cs := #[.int .u64 (IntKind.u64.wrap (a0_4)), .int .u64 (IntKind.u64.wrap (a0_4)), .int .u64 0, .int .u64 0, .int .u64 0, .int .u64 0, .int .u64 0]) ?_ 2 _ rfl; (with_reducible repeat (first | refine blk_drewN ?_ _ | refine blk_drew ?_ | refine blk_alloc ?_ _)); refine blk_put (cs := #[.int .u64 (IntKind.u64.wrap (a0_4)), .int .u64 0, .int .u64 0, .int .u64 0, .int .u64 0, .int .u64 0, .int .u64 0]) ?_ 1 _ rfl; (with_reducible repeat (first | refine blk_drewN ?_ _ | refine blk_drew ?_ | refine blk_alloc ?_ _)); refine blk_put (cs := #[.int .u64 0, .int .u64 0, .int .u64 0, .int .u64 0, .int .u64 0, .int .u64 0, .int .u64 0]) ?_ 0 _ rfl; (with_reducible repeat (first | refine blk_drewN ?_ _ | refine blk_drew ?_ | refine blk_alloc ?_ _)); exact BK102.out) Try.underlying31 rfl (by kernel_rfl) rfl (by (with_reducible repeat (first | refine blk_drewN ?_ _ | refine blk_drew ?_ | refine blk_alloc ?_ _)); refine blk_put (cs := #[.int .u64 (IntKind.u64.wrap (a1)), .int .u64 1, .int .u64 6, .int .u64 1, .int .u64 (IntKind.u64.wrap ((IntKind.u64.wrap (a1)) + 4)), .int .u64 1, .int .u64 0]) ?_ 6 _ rfl; (with_reducible repeat (first | refine blk_drewN ?_ _ | refine blk_drew ?_ | refine blk_alloc ?_ _)); refine blk_put (cs := #[.int .u64 (IntKind.u64.wrap (a1)), .int .u64 1, .int .u64 6, .int .u64 1, .int .u64 (IntKind.u64.wrap ((IntKind.u64.wrap (a1)) + 4)), .int .u64 0, .int .u64 0]) ?_ 5 _ rfl; (with_reducible repeat (first | refine blk_drewN ?_ _ | refine blk_drew ?_ | refine blk_alloc ?_ _)); refine blk_put (cs := #[.int .u64 (IntKind.u64.wrap (a1)), .int .u64 1, .int .u64 6, .int .u64 1, .int .u64 0, .int .u64 0, .int .u64 0]) ?_ 4 _ rfl; (with_reducible repeat (first | refine blk_drewN ?_ _ | refine blk_drew ?_ | refine blk_alloc ?_ _)); refine blk_put (cs := #[.int .u64 (IntKind.u64.wrap (a1)), .int .u64 1, .int .u64 6, .int .u64 0, .int .u64 0, .int .u64 0, .int .u64 0]) ?_ 3 _ rfl; (with_reducible repeat (first | refine blk_drewN ?_ _ | refine blk_drew ?_ | refine blk_alloc ?_ _)); refine blk_put (cs := #[.int .u64 (IntKind.u64.wrap (a1)), .int .u64 1, .int .u64 0, .int .u64 0, .int .u64 0, .int .u64 0, .int .u64 0]) ?_ 2 _ rfl; (with_reducible repeat (first | refine blk_drewN ?_ _ | refine blk_drew ?_ | refine blk_alloc ?_ _)); refine blk_put (cs := #[.int .u64 (IntKind.u64.wrap (a1)), .int .u64 0, .int .u64 0, .int .u64 0, .int .u64 0, .int .u64 0, .int .u64 0]) ?_ 1 _ rfl; (with_reducible repeat (first | refine blk_drewN ?_ _ | refine blk_drew ?_ | refine blk_alloc ?_ _)); refine blk_put (cs := #[.int .u64 0, .int .u64 0, .int .u64 0, .int .u64 0, .int .u64 0, .int .u64 0, .int .u64 0]) ?_ 0 _ rfl; (with_reducible repeat (first | refine blk_drewN ?_ _ | refine blk_drew ?_ | refine blk_alloc ?_ _)); refine blk_far ?_ NB103_102.out _; (with_reducible repeat (first | refine blk_drewN ?_ _ | refine blk_drew ?_ | refine blk_alloc ?_ _)); refine blk_far ?_ NB103_102.out _; (with_reducible repeat (first | refine blk_drewN ?_ _ | refine blk_drew ?_ | refine blk_alloc ?_ _)); refine blk_far ?_ NB103_102.out _; (with_reducible repeat (first | refine blk_drewN ?_ _ | refine blk_drew ?_ | refine blk_alloc ?_ _)); refine blk_far ?_ NB103_102.out _; (with_reducible repeat (first | refine blk_drewN ?_ _ | refine blk_drew ?_ | refine blk_alloc ?_ _)); refine blk_far ?_ NB103_102.out _; (with_reducible repeat (first | refine blk_drewN ?_ _ | refine blk_drew ?_ | refine blk_alloc ?_ _)); refine blk_far ?_ NB103_102.out _; (with_reducible repeat (first | refine blk_drewN ?_ _ | refine blk_drew ?_ | refine blk_alloc ?_ _)); refine blk_far ?_ NB103_102.out _; (with_reducible repeat (first | refine blk_drewN ?_ _ | refine blk_drew ?_ | refine blk_alloc ?_ _)); exact BK103.out) Try.underlying31 rfl (by kernel_rfl)) rfl ?_
  exact ⟨by first | rfl | (simp [errW_none, errW_some] <;> rfl) | (simp [*, errW_none, errW_some] <;> rfl), by repeat (first | (with_reducible first | exact HB.out | apply below_alloc | apply pw_below_drewN | apply below_drew1 | refine below_set ?_ GE101.out | refine below_set ?_ GE102.out | refine below_set ?_ GE103.out) | exact HB.out)⟩

/-! ### bits_Mul64: function 19 -/
def bits_Mul64.f (a0 : Int) (a1 : Int) : Option (Int × Int) := some (IntKind.u64.wrap ((IntKind.u64.wrap ((IntKind.u64.wrap ((a0 / 4294967296) * (a1 / 4294967296))) + ((IntKind.u64.wrap ((IntKind.u64.wrap ((a0 / 4294967296) * (Go.bits .and .u64 a1 4294967295))) + ((IntKind.u64.wrap ((Go.bits .and .u64 a0 4294967295) * (Go.bits .and .u64 a1 4294967295))) / 4294967296))) / 4294967296))) + ((IntKind.u64.wrap ((Go.bits .and .u64 (IntKind.u64.wrap ((IntKind.u64.wrap ((a0 / 4294967296) * (Go.bits .and .u64 a1 4294967295))) + ((IntKind.u64.wrap ((Go.bits .and .u64 a0 4294967295) * (Go.bits .and .u64 a1 4294967295))) / 4294967296))) 4294967295) + (IntKind.u64.wrap ((Go.bits .and .u64 a0 4294967295) * (a1 / 4294967296))))) / 4294967296)), IntKind.u64.wrap (a0 * a1))
set_option maxHeartbeats 8000000 in
set_option maxRecDepth 100000 in
theorem bits_Mul64.calls (a0 : Int) (a1 : Int) (r1 : Int) (r2 : Int) (w : World) (h : bits_Mul64.f a0 a1 = some (r1, r2)) :
    Calls Try.prog 19 #[.int .u64 a0, .int .u64 a1] w fun e w' => e = .returned (.tuple #[.int .u64 r1, .int .u64 r2]) ∧ Drawn0 w w' := by
  have H : (some (IntKind.u64.wrap ((IntKind.u64.wrap ((IntKind.u64.wrap ((a0 / 4294967296) * (a1 / 4294967296))) + ((IntKind.u64.wrap ((IntKind.u64.wrap ((a0 / 4294967296) * (Go.bits .and .u64 a1 4294967295))) + ((IntKind.u64.wrap ((Go.bits .and .u64 a0 4294967295) * (Go.bits .and .u64 a1 4294967295))) / 4294967296))) / 4294967296))) + ((IntKind.u64.wrap ((Go.bits .and .u64 (IntKind.u64.wrap ((IntKind.u64.wrap ((a0 / 4294967296) * (Go.bits .and .u64 a1 4294967295))) + ((IntKind.u64.wrap ((Go.bits .and .u64 a0 4294967295) * (Go.bits .and .u64 a1 4294967295))) / 4294967296))) 4294967295) + (IntKind.u64.wrap ((Go.bits .and .u64 a0 4294967295) * (a1 / 4294967296))))) / 4294967296)), IntKind.u64.wrap (a0 * a1))) = some (r1, r2) := h
  clear h
  simp only [Option.some.injEq, Prod.mk.injEq] at H
  obtain ⟨rfl, rfl⟩ := H
  go_enter Try.func19, Try.ntmps19
  go_wp2
  go_ret2
  exact ⟨by first | rfl | (simp; done) | (simp [*]; done), by repeat (first | exact Drawn0.refl _ | apply Drawn0.step)⟩

/-! ### sizes_Mul: function 17 -/
def sizes_Mul.f (a0 : Int) (a1 : Int) (a2 : Int) : Option (Int × Bool) := (bits_Mul64.f a0 a1).bind fun bt104 => (if bt104.1 = 0 then (if bt104.2 > a2 then (some (0, false)) else (some (bt104.2, true))) else (some (0, false)))
set_option maxHeartbeats 8000000 in
set_option maxRecDepth 100000 in
theorem sizes_Mul.calls (a0 : Int) (a1 : Int) (a2 : Int) (r1 : Int) (r2 : Bool) (w : World) (h : sizes_Mul.f a0 a1 a2 = some (r1, r2)) :
    Calls Try.prog 17 #[.int .u64 a0, .int .u64 a1, .int .u64 a2] w fun e w' => e = .returned (.tuple #[.int .u64 r1, .bool r2]) ∧ Drawn0 w w' := by
  have H : ((bits_Mul64.f a0 a1).bind fun bt104 => (if bt104.1 = 0 then (if bt104.2 > a2 then (some (0, false)) else (some (bt104.2, true))) else (some (0, false)))) = some (r1, r2) := h
  clear h
  replace H := Option.bind_eq_some_iff.mp H
  obtain ⟨⟨t104, t105⟩, A40, H⟩ := H
  replace H : (if t104 = 0 then (if t105 > a2 then (some (0, false)) else (some (t105, true))) else (some (0, false))) = some (r1, r2) := H
  have A4 := Aside0.mk A40
  clear A40
  by_cases c5 : t104 = 0
  · rw [if_pos c5] at H
    have c5b0 : (t104 == 0) = true := beq_iff_eq.mpr c5
    have c5b1 : (t104 != 0) = false := bne_eq_false_iff_eq.mpr c5
    clear c5
    by_cases c6 : t105 > a2
    · rw [if_pos c6] at H
      have c6b0 : decide (a2 < t105) = true := decide_eq_true c6
      clear c6
      simp only [Option.some.injEq, Prod.mk.injEq] at H
      obtain ⟨rfl, rfl⟩ := H
      go_enter Try.func17, Try.ntmps17
      go_wp2_with (first | ((with_reducible refine gate_callee (f := 19) rfl ?_); refine goesL_ (some 13) rfl rfl Try.func19 (by kernel_rfl) rfl #[.int .u64 a0, .int .u64 a1] rfl (by (try simp only [List.map_toArray, List.map_cons, List.map_nil]); first | done | rfl | (simp only [List.length_drop, List.length_take]; rfl)) ?_; (with_reducible refine (bits_Mul64.calls a0 a1 t104 t105 _ A4.out).mono ?_); rintro e w' ⟨rfl, ⟨nd, rfl⟩⟩; refine ⟨_, rfl, ?_⟩))
      go_ret2
      exact ⟨by first | rfl | (simp; done) | (simp [*]; done), by repeat (first | exact Drawn0.refl _ | apply Drawn0.step)⟩
    · rw [if_neg c6] at H
      have c6b0 : decide (a2 < t105) = false := decide_eq_false c6
      clear c6
      simp only [Option.some.injEq, Prod.mk.injEq] at H
      obtain ⟨rfl, rfl⟩ := H
      go_enter Try.func17, Try.ntmps17
      go_wp2_with (first | ((with_reducible refine gate_callee (f := 19) rfl ?_); refine goesL_ (some 13) rfl rfl Try.func19 (by kernel_rfl) rfl #[.int .u64 a0, .int .u64 a1] rfl (by (try simp only [List.map_toArray, List.map_cons, List.map_nil]); first | done | rfl | (simp only [List.length_drop, List.length_take]; rfl)) ?_; (with_reducible refine (bits_Mul64.calls a0 a1 t104 t105 _ A4.out).mono ?_); rintro e w' ⟨rfl, ⟨nd, rfl⟩⟩; refine ⟨_, rfl, ?_⟩))
      go_ret2
      exact ⟨by first | rfl | (simp; done) | (simp [*]; done), by repeat (first | exact Drawn0.refl _ | apply Drawn0.step)⟩
  · rw [if_neg c5] at H
    have c5b0 : (t104 == 0) = false := beq_eq_false_iff_ne.mpr c5
    have c5b1 : (t104 != 0) = true := bne_iff_ne.mpr c5
    simp only [Option.some.injEq, Prod.mk.injEq] at H
    obtain ⟨rfl, rfl⟩ := H
    go_enter Try.func17, Try.ntmps17
    go_wp2_with (first | ((with_reducible refine gate_callee (f := 19) rfl ?_); refine goesL_ (some 13) rfl rfl Try.func19 (by kernel_rfl) rfl #[.int .u64 a0, .int .u64 a1] rfl (by (try simp only [List.map_toArray, List.map_cons, List.map_nil]); first | done | rfl | (simp only [List.length_drop, List.length_take]; rfl)) ?_; (with_reducible refine (bits_Mul64.calls a0 a1 t104 t105 _ A4.out).mono ?_); rintro e w' ⟨rfl, ⟨nd, rfl⟩⟩; refine ⟨_, rfl, ?_⟩))
    go_ret2
    exact ⟨by first | rfl | (simp; done) | (simp [*]; done), by repeat (first | exact Drawn0.refl _ | apply Drawn0.step)⟩

-- NOT PRINTED: function 20 (bits_Add64)

/-! ### sizes_Add: function 18 -/
def sizes_Add.f (a0 : Int) (a1 : Int) (a2 : Int) : Option (Int × Bool) := if 0 ≤ a0 ∧ a0 < 18446744073709551616 ∧ 0 ≤ a1 ∧ a1 < 18446744073709551616 then (if a0 + a1 ≥ 18446744073709551616 then (some (0, false)) else (if a0 + a1 > a2 then (some (0, false)) else (some (a0 + a1, true)))) else (none)
set_option maxHeartbeats 8000000 in
theorem sizes_Add.calls (a0 : Int) (a1 : Int) (a2 : Int) (r1 : Int) (r2 : Bool) (w : World) (h : sizes_Add.f a0 a1 a2 = some (r1, r2)) :
    Calls Try.prog 18 #[.int .u64 a0, .int .u64 a1, .int .u64 a2] w fun e w' => e = .returned (.tuple #[.int .u64 r1, .bool r2]) ∧ Drawn0 w w' := by
  have hadd : ∀ W : World, (callFunc 20 #[.int .u64 a0, .int .u64 a1, .int .u64 0]).run Try.prog W = ((add64Entry #[.int .u64 a0, .int .u64 a1, .int .u64 0]).run Try.prog W).andThen fun v w' => .ok (.value v) w' := fun W =>
    run_callFunc_extern Try.func20 (by kernel_rfl) (by kernel_rfl) (by kernel_rfl) (e := add64Entry) (by kernel_rfl) _ W
  have H : (if 0 ≤ a0 ∧ a0 < 18446744073709551616 ∧ 0 ≤ a1 ∧ a1 < 18446744073709551616 then (if a0 + a1 ≥ 18446744073709551616 then (some (0, false)) else (if a0 + a1 > a2 then (some (0, false)) else (some (a0 + a1, true)))) else (none)) = some (r1, r2) := h
  clear h
  by_cases c0 : 0 ≤ a0 ∧ a0 < 18446744073709551616 ∧ 0 ≤ a1 ∧ a1 < 18446744073709551616
  · rw [if_pos c0] at H
    obtain ⟨p0, p1, p2, p3⟩ := c0
    have hadd' : ∀ W : World, (callFunc 20 #[.int .u64 a0, .int .u64 a1, .int .u64 0]).run Try.prog W = .ok (.value (.tuple #[.int .u64 ((a0 + a1) % 18446744073709551616), .int .u64 ((a0 + a1) / 18446744073709551616)])) W := fun W => by
      rw [hadd W, run_add64 a0 a1 0 p0 p2 (by omega) (by omega), Int.add_zero]; rfl
    clear hadd
    by_cases c1 : a0 + a1 ≥ 18446744073709551616
    · rw [if_pos c1] at H
      obtain ⟨q, hq⟩ : ∃ q, (a0 + a1) % 18446744073709551616 = q := ⟨_, rfl⟩
      obtain ⟨t, ht⟩ : ∃ t, (a0 + a1) / 18446744073709551616 = t := ⟨_, rfl⟩
      have ht1 : t ≠ 0 := by omega
      rw [hq, ht] at hadd'
      have b1 : (t == 0) = false := beq_eq_false_iff_ne.mpr ht1
      have b2 : (t != 0) = true := bne_iff_ne.mpr ht1
      clear hq ht c1 ht1 p0 p1 p2 p3
      simp only [Option.some.injEq, Prod.mk.injEq] at H
      obtain ⟨rfl, rfl⟩ := H
      go_enter Try.func18, Try.ntmps18
      go_wp2
      repeat (go_quiet (fail); try go_wp2)
      go_ret2
      exact ⟨by first | rfl | (simp; done) | (simp [*]; done), by repeat (first | exact Drawn0.refl _ | apply Drawn0.step)⟩
    · rw [if_neg c1] at H
      rw [show (a0 + a1) % 18446744073709551616 = a0 + a1 by omega, show (a0 + a1) / 18446744073709551616 = 0 by omega] at hadd'
      obtain ⟨q, hq⟩ : ∃ q, a0 + a1 = q := ⟨_, rfl⟩
      rw [hq] at hadd' H
      clear hq c1 p0 p1 p2 p3
      by_cases c2 : q > a2
      · rw [if_pos c2] at H
        have b2 : decide (a2 < q) = true := decide_eq_true c2
        clear c2
        simp only [Option.some.injEq, Prod.mk.injEq] at H
        obtain ⟨rfl, rfl⟩ := H
        go_enter Try.func18, Try.ntmps18
        go_wp2
        repeat (go_quiet (fail); try go_wp2)
        go_ret2
        exact ⟨by first | rfl | (simp; done) | (simp [*]; done), by repeat (first | exact Drawn0.refl _ | apply Drawn0.step)⟩
      · rw [if_neg c2] at H
        have b2 : decide (a2 < q) = false := decide_eq_false c2
        clear c2
        simp only [Option.some.injEq, Prod.mk.injEq] at H
        obtain ⟨rfl, rfl⟩ := H
        go_enter Try.func18, Try.ntmps18
        go_wp2
        repeat (go_quiet (fail); try go_wp2)
        go_ret2
        exact ⟨by first | rfl | (simp; done) | (simp [*]; done), by repeat (first | exact Drawn0.refl _ | apply Drawn0.step)⟩
  · rw [if_neg c0] at H
    cases H

/-! ### sizes_Total: function 16 -/
def sizes_Total.l0 : Nat → List Int → List Int → Int → Int → Bool → Int → Int → Option (Int × Bool)
  | 0, _, _, _, _, _, _, _ => none
  | k + 1, x0, x1, x2, x8, x9, x17, x18 => if x18 < x17 then (if 0 ≤ x18 then (if x18 < (x0.length : Int) then (if x18 < (x1.length : Int) then ((sizes_Mul.f (rd x0 x18) (rd x1 x18) x2).bind fun bt108 => ((sizes_Add.f x8 bt108.1 x2).bind fun bt110 => (if bt110.2 = true then (if bt108.2 = true then (sizes_Total.l0 k x0 x1 x2 bt110.1 bt110.2 x17 (wrap64 (x18 + 1))) else (some (0, false))) else (some (0, false))))) else (none)) else (none)) else (none)) else (if x9 = true then (some (x8, true)) else (some (0, false)))
def sizes_Total.f (k : Nat) (l0 : List Int) (l1 : List Int) (a2 : Int) : Option (Int × Bool) := sizes_Total.l0 k l0 l1 a2 0 true (mn (l0.length : Int) (l1.length : Int)) 0
theorem sizes_Total.mono_l : ∀ k, (∀ y0 y1 y2 y3 y4 y5 y6, LeO (sizes_Total.l0 k y0 y1 y2 y3 y4 y5 y6) (sizes_Total.l0 (k + 1) y0 y1 y2 y3 y4 y5 y6))
  | 0 => fun _ _ _ _ _ _ _ r h => by simp [sizes_Total.l0] at h
  | k + 1 => by
    have ih0 := sizes_Total.mono_l k
    · intro y0 y1 y2 y3 y4 y5 y6
      unfold sizes_Total.l0
      repeat' first
      | (with_reducible exact ih0 _ _ _ _ _ _ _)
      | (with_reducible exact LeO.refl _)
      | (with_reducible exact LeO.none _)
      | (with_reducible refine LeO.ite ?_ ?_)
      | (with_reducible refine LeO.bind ?_ (fun _ => ?_))
      | exact ih0 _ _ _ _ _ _ _
      | exact LeO.none _
      | refine LeO.ite ?_ ?_
      | refine LeO.bind ?_ (fun _ => ?_)
theorem sizes_Total.mono : ∀ a0 a1 a2 k, LeO (sizes_Total.f k a0 a1 a2) (sizes_Total.f (k + 1) a0 a1 a2) := by
  intro a0 a1 a2 k
  have ih0 := sizes_Total.mono_l k
  unfold sizes_Total.f
  repeat' first
      | (with_reducible exact ih0 _ _ _ _ _ _ _)
      | (with_reducible exact LeO.refl _)
      | (with_reducible exact LeO.none _)
      | (with_reducible refine LeO.ite ?_ ?_)
      | (with_reducible refine LeO.bind ?_ (fun _ => ?_))
      | exact ih0 _ _ _ _ _ _ _
      | exact LeO.none _
      | refine LeO.ite ?_ ?_
      | refine LeO.bind ?_ (fun _ => ?_)
set_option maxHeartbeats 8000000 in
set_option maxRecDepth 100000 in
theorem sizes_Total.calls (k : Nat) (A0 : Option Addr) (c0 : Nat) (l0 : List Int) (A1 : Option Addr) (c1 : Nat) (l1 : List Int) (a2 : Int) (r1 : Int) (r2 : Bool) (w : World) (hr0 : Kd.C (Kd.int .u64) w A0 l0.length l0) (hc0 : l0.length ≤ c0) (hr1 : Kd.C (Kd.int .u64) w A1 l1.length l1) (hc1 : l1.length ≤ c1) (h : sizes_Total.f k l0 l1 a2 = some (r1, r2)) :
    Calls Try.prog 16 #[.slice A0 l0.length c0, .slice A1 l1.length c1, .int .u64 a2] w fun e w' => e = .returned (.tuple #[.int .u64 r1, .bool r2]) ∧ Below w.heap.size w w' := by
  have HR0 := Aside0.mk hr0
  have HC0 := Aside0.mk hc0
  clear hr0 hc0
  have HR1 := Aside0.mk hr1
  have HC1 := Aside0.mk hc1
  clear hr1 hc1
  have HB := Aside0.mk (Below.refl w.heap.size w)
  have H : (sizes_Total.l0 k l0 l1 a2 0 true (mn (l0.length : Int) (l1.length : Int)) 0) = some (r1, r2) := h
  clear h
  obtain ⟨ji4, hji4⟩ : ∃ j_ : Int, (mn (l0.length : Int) (l1.length : Int)) = j_ := ⟨_, rfl⟩
  replace H : (sizes_Total.l0 k l0 l1 a2 0 true ji4 0) = some (r1, r2) := by first | (rw [hji4] at H; exact H) | (simp only [hji4] at H ⊢; exact H)
  (try (have hji4l : 0 ≤ ji4 := by (rw [← hji4]; unfold mn; (repeat' split) <;> omega)))
  (try (have hji4m : 0 ≤ ji4 := by omega))
  have hji4n : (if l1.length < l0.length then (l1.length : Int) else (l0.length : Int)) = ji4 := by rw [← hji4]; unfold mn; (repeat' split) <;> omega
  have hji4_ : (if (l1.length : Int) < (l0.length : Int) then (l1.length : Int) else (l0.length : Int)) = ji4 := hji4
  have H' := Aside0.mk H
  clear H
  go_enter Try.func16, Try.ntmps16
  go_wp2
  go_step3
  go_wp2
  repeat (go_quiet (fail); try go_wp2)
  (try (go_step3; go_wp2))
  go_loopg [8, 9, 18] k (fun kq v8 v9 v18 w' => ∃ (x8_1 : Int) (x9_1 : Bool) (x18_1 : Int), v8 = .int .u64 x8_1 ∧ v9 = .bool x9_1 ∧ v18 = .int .i64 x18_1 ∧ Aside0 (sizes_Total.l0 kq l0 l1 a2 x8_1 x9_1 ji4 x18_1 = some (r1, r2)) ∧ Aside0 (kq ≤ k) ∧ Aside0 (Below w.heap.size w w'))
  case atStart => exact ⟨(0), (true), (0), (by first | rfl | (simp; done) | (simp [*]; done)), (by first | rfl | (simp; done) | (simp [*]; done)), (by first | rfl | (simp; done) | (simp [*]; done)), H', ⟨Nat.le_refl _⟩, ⟨by repeat (first | (with_reducible first | exact HB.out | apply below_alloc | apply pw_below_drewN | apply below_drew1) | exact HB.out)⟩⟩
  case round =>
    clear H'
    try clear c1
    try clear p2
    try clear p3
    obtain ⟨x8_1, x9_1, x18_1, rfl, rfl, rfl, HA, HK1, HB⟩ := hrel
    cases gk with
    | zero => exact absurd HA.out (by simp [sizes_Total.l0])
    | succ k1 =>
      have H := HA.out
      clear HA
      simp only [sizes_Total.l0] at H
      by_cases c5 : x18_1 < ji4
      · rw [if_pos c5] at H
        have c5b0 : decide (x18_1 < ji4) = true := decide_eq_true c5
        clear c5
        by_cases c6 : 0 ≤ x18_1
        · rw [if_pos c6] at H
          have c6b0 : decide (0 ≤ x18_1) = true := decide_eq_true c6
          clear c6
          by_cases c7 : x18_1 < (l0.length : Int)
          · rw [if_pos c7] at H
            have c7b0 : decide (x18_1 < (l0.length : Int)) = true := decide_eq_true c7
            clear c7
            by_cases c8 : x18_1 < (l1.length : Int)
            · rw [if_pos c8] at H
              have c8b0 : decide (x18_1 < (l1.length : Int)) = true := decide_eq_true c8
              clear c8
              replace H := Option.bind_eq_some_iff.mp H
              obtain ⟨⟨t108, t109⟩, A90, H⟩ := H
              replace H : ((sizes_Add.f x8_1 t108 a2).bind fun bt110 => (if bt110.2 = true then (if t109 = true then (sizes_Total.l0 k1 l0 l1 a2 bt110.1 bt110.2 ji4 (wrap64 (x18_1 + 1))) else (some (0, false))) else (some (0, false)))) = some (r1, r2) := H
              have A9 := Aside0.mk A90
              clear A90
              replace H := Option.bind_eq_some_iff.mp H
              obtain ⟨⟨t110, t111⟩, A100, H⟩ := H
              replace H : (if t111 = true then (if t109 = true then (sizes_Total.l0 k1 l0 l1 a2 t110 t111 ji4 (wrap64 (x18_1 + 1))) else (some (0, false))) else (some (0, false))) = some (r1, r2) := H
              have A10 := Aside0.mk A100
              clear A100
              by_cases c11 : t111 = true
              · subst c11
                have H1 : (if t109 = true then (sizes_Total.l0 k1 l0 l1 a2 t110 true ji4 (wrap64 (x18_1 + 1))) else (some (0, false))) = some (r1, r2) := by rw [if_pos rfl] at H; exact H
                clear H
                have H := H1
                clear H1
                by_cases c12 : t109 = true
                · subst c12
                  have H1 : (sizes_Total.l0 k1 l0 l1 a2 t110 true ji4 (wrap64 (x18_1 + 1))) = some (r1, r2) := by rw [if_pos rfl] at H; exact H
                  clear H
                  have H := H1
                  clear H1
                  have H' := Aside0.mk H
                  clear H
                  have p106 : 0 ≤ (x18_1 : Int) := of_decide_eq_true (by first | (with_reducible assumption) | assumption)
                  have q106 : x18_1 < (l0.length : Int) := of_decide_eq_true (by first | (with_reducible assumption) | assumption)
                  obtain ⟨ad106, e106, hx106_0⟩ := Kd.at_int HR0.out x18_1 p106 q106
                  cases e106
                  replace hx106_0 := (HB.out.cell (World.block_lt_of_cell? w _ hx106_0)).trans hx106_0
                  replace p106 := eq_true p106
                  replace q106 := eq_true q106
                  have p107 : 0 ≤ (x18_1 : Int) := of_decide_eq_true (by first | (with_reducible assumption) | assumption)
                  have q107 : x18_1 < (l1.length : Int) := of_decide_eq_true (by first | (with_reducible assumption) | assumption)
                  obtain ⟨ad107, e107, hx107_0⟩ := Kd.at_int HR1.out x18_1 p107 q107
                  cases e107
                  replace hx107_0 := (HB.out.cell (World.block_lt_of_cell? w _ hx107_0)).trans hx107_0
                  replace p107 := eq_true p107
                  replace q107 := eq_true q107
                  go_wp2_with (first | (go_at_call 17; (with_reducible refine (sizes_Mul.calls (rd l0 x18_1) (rd l1 x18_1) a2 t108 true _ A9.out).mono ?_); rintro e w' ⟨rfl, ⟨nd, rfl⟩⟩; (try first | exact ⟨rfl, _, World.drewN_drewN _ _ _⟩ | exact ⟨rfl, _, Eq.trans (World.drewN_drewN _ _ _) (congrArg (World.drewN _) (Nat.add_assoc _ _ _))⟩)) | (go_at_call 18; (with_reducible refine (sizes_Add.calls x8_1 t108 a2 t110 true _ A10.out).mono ?_); rintro e w' ⟨rfl, ⟨nd, rfl⟩⟩; (try first | exact ⟨rfl, _, World.drewN_drewN _ _ _⟩ | exact ⟨rfl, _, Eq.trans (World.drewN_drewN _ _ _) (congrArg (World.drewN _) (Nat.add_assoc _ _ _))⟩)))
                  repeat (go_quiet (first | (go_at_call 17; (with_reducible refine (sizes_Mul.calls (rd l0 x18_1) (rd l1 x18_1) a2 t108 true _ A9.out).mono ?_); rintro e w' ⟨rfl, ⟨nd, rfl⟩⟩; (try first | exact ⟨rfl, _, World.drewN_drewN _ _ _⟩ | exact ⟨rfl, _, Eq.trans (World.drewN_drewN _ _ _) (congrArg (World.drewN _) (Nat.add_assoc _ _ _))⟩)) | (go_at_call 18; (with_reducible refine (sizes_Add.calls x8_1 t108 a2 t110 true _ A10.out).mono ?_); rintro e w' ⟨rfl, ⟨nd, rfl⟩⟩; (try first | exact ⟨rfl, _, World.drewN_drewN _ _ _⟩ | exact ⟨rfl, _, Eq.trans (World.drewN_drewN _ _ _) (congrArg (World.drewN _) (Nat.add_assoc _ _ _))⟩))); try go_wp2_with (first | (go_at_call 17; (with_reducible refine (sizes_Mul.calls (rd l0 x18_1) (rd l1 x18_1) a2 t108 true _ A9.out).mono ?_); rintro e w' ⟨rfl, ⟨nd, rfl⟩⟩; (try first | exact ⟨rfl, _, World.drewN_drewN _ _ _⟩ | exact ⟨rfl, _, Eq.trans (World.drewN_drewN _ _ _) (congrArg (World.drewN _) (Nat.add_assoc _ _ _))⟩)) | (go_at_call 18; (with_reducible refine (sizes_Add.calls x8_1 t108 a2 t110 true _ A10.out).mono ?_); rintro e w' ⟨rfl, ⟨nd, rfl⟩⟩; (try first | exact ⟨rfl, _, World.drewN_drewN _ _ _⟩ | exact ⟨rfl, _, Eq.trans (World.drewN_drewN _ _ _) (congrArg (World.drewN _) (Nat.add_assoc _ _ _))⟩))))
                  go_roundg k1
                  case measure => have := HK1.out; omega
                  case rel => exact ⟨(t110), (true), (wrap64 (x18_1 + 1)), (by first | rfl | (simp; done) | (simp [*]; done)), (by first | rfl | (simp; done) | (simp [*]; done)), (by first | rfl | (simp; done) | (simp [*]; done)), H', ⟨by have := HK1.out; omega⟩, ⟨by repeat (first | (with_reducible first | exact HB.out | apply below_alloc | apply pw_below_drewN | apply below_drew1) | exact HB.out)⟩⟩
                · replace c12 := Bool.eq_false_iff.mpr c12
                  subst c12
                  have H1 : (some (0, false)) = some (r1, r2) := by rw [if_neg (show ¬ (false = true) by decide)] at H; exact H
                  clear H
                  have H := H1
                  clear H1
                  simp only [Option.some.injEq, Prod.mk.injEq] at H
                  obtain ⟨rfl, rfl⟩ := H
                  have p106 : 0 ≤ (x18_1 : Int) := of_decide_eq_true (by first | (with_reducible assumption) | assumption)
                  have q106 : x18_1 < (l0.length : Int) := of_decide_eq_true (by first | (with_reducible assumption) | assumption)
                  obtain ⟨ad106, e106, hx106_0⟩ := Kd.at_int HR0.out x18_1 p106 q106
                  cases e106
                  replace hx106_0 := (HB.out.cell (World.block_lt_of_cell? w _ hx106_0)).trans hx106_0
                  replace p106 := eq_true p106
                  replace q106 := eq_true q106
                  have p107 : 0 ≤ (x18_1 : Int) := of_decide_eq_true (by first | (with_reducible assumption) | assumption)
                  have q107 : x18_1 < (l1.length : Int) := of_decide_eq_true (by first | (with_reducible assumption) | assumption)
                  obtain ⟨ad107, e107, hx107_0⟩ := Kd.at_int HR1.out x18_1 p107 q107
                  cases e107
                  replace hx107_0 := (HB.out.cell (World.block_lt_of_cell? w _ hx107_0)).trans hx107_0
                  replace p107 := eq_true p107
                  replace q107 := eq_true q107
                  go_wp2_with (first | (go_at_call 17; (with_reducible refine (sizes_Mul.calls (rd l0 x18_1) (rd l1 x18_1) a2 t108 false _ A9.out).mono ?_); rintro e w' ⟨rfl, ⟨nd, rfl⟩⟩; (try first | exact ⟨rfl, _, World.drewN_drewN _ _ _⟩ | exact ⟨rfl, _, Eq.trans (World.drewN_drewN _ _ _) (congrArg (World.drewN _) (Nat.add_assoc _ _ _))⟩)) | (go_at_call 18; (with_reducible refine (sizes_Add.calls x8_1 t108 a2 t110 true _ A10.out).mono ?_); rintro e w' ⟨rfl, ⟨nd, rfl⟩⟩; (try first | exact ⟨rfl, _, World.drewN_drewN _ _ _⟩ | exact ⟨rfl, _, Eq.trans (World.drewN_drewN _ _ _) (congrArg (World.drewN _) (Nat.add_assoc _ _ _))⟩)))
                  repeat (go_quiet (first | (go_at_call 17; (with_reducible refine (sizes_Mul.calls (rd l0 x18_1) (rd l1 x18_1) a2 t108 false _ A9.out).mono ?_); rintro e w' ⟨rfl, ⟨nd, rfl⟩⟩; (try first | exact ⟨rfl, _, World.drewN_drewN _ _ _⟩ | exact ⟨rfl, _, Eq.trans (World.drewN_drewN _ _ _) (congrArg (World.drewN _) (Nat.add_assoc _ _ _))⟩)) | (go_at_call 18; (with_reducible refine (sizes_Add.calls x8_1 t108 a2 t110 true _ A10.out).mono ?_); rintro e w' ⟨rfl, ⟨nd, rfl⟩⟩; (try first | exact ⟨rfl, _, World.drewN_drewN _ _ _⟩ | exact ⟨rfl, _, Eq.trans (World.drewN_drewN _ _ _) (congrArg (World.drewN _) (Nat.add_assoc _ _ _))⟩))); try go_wp2_with (first | (go_at_call 17; (with_reducible refine (sizes_Mul.calls (rd l0 x18_1) (rd l1 x18_1) a2 t108 false _ A9.out).mono ?_); rintro e w' ⟨rfl, ⟨nd, rfl⟩⟩; (try first | exact ⟨rfl, _, World.drewN_drewN _ _ _⟩ | exact ⟨rfl, _, Eq.trans (World.drewN_drewN _ _ _) (congrArg (World.drewN _) (Nat.add_assoc _ _ _))⟩)) | (go_at_call 18; (with_reducible refine (sizes_Add.calls x8_1 t108 a2 t110 true _ A10.out).mono ?_); rintro e w' ⟨rfl, ⟨nd, rfl⟩⟩; (try first | exact ⟨rfl, _, World.drewN_drewN _ _ _⟩ | exact ⟨rfl, _, Eq.trans (World.drewN_drewN _ _ _) (congrArg (World.drewN _) (Nat.add_assoc _ _ _))⟩))))
                  (try rw [Exit.noGoto_ret])
                  go_ret2
                  exact ⟨by first | rfl | (simp [errW_none, errW_some] <;> rfl) | (simp only [← hji4]; first | rfl | (simp [errW_none, errW_some] <;> rfl)) | (simp [*, errW_none, errW_some] <;> rfl), by repeat (first | (with_reducible first | exact HB.out | apply below_alloc | apply pw_below_drewN | apply below_drew1) | exact HB.out)⟩
              · replace c11 := Bool.eq_false_iff.mpr c11
                subst c11
                have H1 : (some (0, false)) = some (r1, r2) := by rw [if_neg (show ¬ (false = true) by decide)] at H; exact H
                clear H
                have H := H1
                clear H1
                simp only [Option.some.injEq, Prod.mk.injEq] at H
                obtain ⟨rfl, rfl⟩ := H
                have p106 : 0 ≤ (x18_1 : Int) := of_decide_eq_true (by first | (with_reducible assumption) | assumption)
                have q106 : x18_1 < (l0.length : Int) := of_decide_eq_true (by first | (with_reducible assumption) | assumption)
                obtain ⟨ad106, e106, hx106_0⟩ := Kd.at_int HR0.out x18_1 p106 q106
                cases e106
                replace hx106_0 := (HB.out.cell (World.block_lt_of_cell? w _ hx106_0)).trans hx106_0
                replace p106 := eq_true p106
                replace q106 := eq_true q106
                have p107 : 0 ≤ (x18_1 : Int) := of_decide_eq_true (by first | (with_reducible assumption) | assumption)
                have q107 : x18_1 < (l1.length : Int) := of_decide_eq_true (by first | (with_reducible assumption) | assumption)
                obtain ⟨ad107, e107, hx107_0⟩ := Kd.at_int HR1.out x18_1 p107 q107
                cases e107
                replace hx107_0 := (HB.out.cell (World.block_lt_of_cell? w _ hx107_0)).trans hx107_0
                replace p107 := eq_true p107
                replace q107 := eq_true q107
                go_wp2_with (first | (go_at_call 17; (with_reducible refine (sizes_Mul.calls (rd l0 x18_1) (rd l1 x18_1) a2 t108 t109 _ A9.out).mono ?_); rintro e w' ⟨rfl, ⟨nd, rfl⟩⟩; (try first | exact ⟨rfl, _, World.drewN_drewN _ _ _⟩ | exact ⟨rfl, _, Eq.trans (World.drewN_drewN _ _ _) (congrArg (World.drewN _) (Nat.add_assoc _ _ _))⟩)) | (go_at_call 18; (with_reducible refine (sizes_Add.calls x8_1 t108 a2 t110 false _ A10.out).mono ?_); rintro e w' ⟨rfl, ⟨nd, rfl⟩⟩; (try first | exact ⟨rfl, _, World.drewN_drewN _ _ _⟩ | exact ⟨rfl, _, Eq.trans (World.drewN_drewN _ _ _) (congrArg (World.drewN _) (Nat.add_assoc _ _ _))⟩)))
                repeat (go_quiet (first | (go_at_call 17; (with_reducible refine (sizes_Mul.calls (rd l0 x18_1) (rd l1 x18_1) a2 t108 t109 _ A9.out).mono ?_); rintro e w' ⟨rfl, ⟨nd, rfl⟩⟩; (try first | exact ⟨rfl, _, World.drewN_drewN _ _ _⟩ | exact ⟨rfl, _, Eq.trans (World.drewN_drewN _ _ _) (congrArg (World.drewN _) (Nat.add_assoc _ _ _))⟩)) | (go_at_call 18; (with_reducible refine (sizes_Add.calls x8_1 t108 a2 t110 false _ A10.out).mono ?_); rintro e w' ⟨rfl, ⟨nd, rfl⟩⟩; (try first | exact ⟨rfl, _, World.drewN_drewN _ _ _⟩ | exact ⟨rfl, _, Eq.trans (World.drewN_drewN _ _ _) (congrArg (World.drewN _) (Nat.add_assoc _ _ _))⟩))); try go_wp2_with (first | (go_at_call 17; (with_reducible refine (sizes_Mul.calls (rd l0 x18_1) (rd l1 x18_1) a2 t108 t109 _ A9.out).mono ?_); rintro e w' ⟨rfl, ⟨nd, rfl⟩⟩; (try first | exact ⟨rfl, _, World.drewN_drewN _ _ _⟩ | exact ⟨rfl, _, Eq.trans (World.drewN_drewN _ _ _) (congrArg (World.drewN _) (Nat.add_assoc _ _ _))⟩)) | (go_at_call 18; (with_reducible refine (sizes_Add.calls x8_1 t108 a2 t110 false _ A10.out).mono ?_); rintro e w' ⟨rfl, ⟨nd, rfl⟩⟩; (try first | exact ⟨rfl, _, World.drewN_drewN _ _ _⟩ | exact ⟨rfl, _, Eq.trans (World.drewN_drewN _ _ _) (congrArg (World.drewN _) (Nat.add_assoc _ _ _))⟩))))
                (try rw [Exit.noGoto_ret])
                go_ret2
                exact ⟨by first | rfl | (simp [errW_none, errW_some] <;> rfl) | (simp only [← hji4]; first | rfl | (simp [errW_none, errW_some] <;> rfl)) | (simp [*, errW_none, errW_some] <;> rfl), by repeat (first | (with_reducible first | exact HB.out | apply below_alloc | apply pw_below_drewN | apply below_drew1) | exact HB.out)⟩
            · rw [if_neg c8] at H
              exact absurd H (by simp)
          · rw [if_neg c7] at H
            exact absurd H (by simp)
        · rw [if_neg c6] at H
          exact absurd H (by simp)
      · rw [if_neg c5] at H
        have c5b0 : decide (x18_1 < ji4) = false := decide_eq_false c5
        clear c5
        by_cases c13 : x9_1 = true
        · subst c13
          have H1 : (some (x8_1, true)) = some (r1, r2) := by rw [if_pos rfl] at H; exact H
          clear H
          have H := H1
          clear H1
          simp only [Option.some.injEq, Prod.mk.injEq] at H
          obtain ⟨rfl, rfl⟩ := H
          go_wp2
          repeat (go_quiet (fail); try go_wp2)
          (try rw [Exit.noGoto_ret])
          go_ret2
          exact ⟨by first | rfl | (simp [errW_none, errW_some] <;> rfl) | (simp only [← hji4]; first | rfl | (simp [errW_none, errW_some] <;> rfl)) | (simp [*, errW_none, errW_some] <;> rfl), by repeat (first | (with_reducible first | exact HB.out | apply below_alloc | apply pw_below_drewN | apply below_drew1) | exact HB.out)⟩
        · replace c13 := Bool.eq_false_iff.mpr c13
          subst c13
          have H1 : (some (0, false)) = some (r1, r2) := by rw [if_neg (show ¬ (false = true) by decide)] at H; exact H
          clear H
          have H := H1
          clear H1
          simp only [Option.some.injEq, Prod.mk.injEq] at H
          obtain ⟨rfl, rfl⟩ := H
          go_wp2
          repeat (go_quiet (fail); try go_wp2)
          (try rw [Exit.noGoto_ret])
          go_ret2
          exact ⟨by first | rfl | (simp [errW_none, errW_some] <;> rfl) | (simp only [← hji4]; first | rfl | (simp [errW_none, errW_some] <;> rfl)) | (simp [*, errW_none, errW_some] <;> rfl), by repeat (first | (with_reducible first | exact HB.out | apply below_alloc | apply pw_below_drewN | apply below_drew1) | exact HB.out)⟩

/-! ### layout_Total: function 9 -/
def layout_Total.f (a0_0 : Int) (a0_1 : Int) (a0_2 : Int) (a0_3 : Int) (a0_4 : Int) (a0_5 : Int) (a0_6 : Int) (a1 : Int) (a2 : Int) : Option (Int × Bool) :=
  (layout_parts.f a0_0 a0_1 a0_2 a0_3 a0_4 a0_5 a0_6 a1).bind fun b => sizes_Total.f 20 [b.1, b.2.1, b.2.2.1, b.2.2.2.1, b.2.2.2.2.1, b.2.2.2.2.2.1, b.2.2.2.2.2.2.1] [b.2.2.2.2.2.2.2.1, b.2.2.2.2.2.2.2.2.1, b.2.2.2.2.2.2.2.2.2.1, b.2.2.2.2.2.2.2.2.2.2.1, b.2.2.2.2.2.2.2.2.2.2.2.1, b.2.2.2.2.2.2.2.2.2.2.2.2.1, b.2.2.2.2.2.2.2.2.2.2.2.2.2] a2
set_option maxHeartbeats 8000000 in
set_option maxRecDepth 100000 in
theorem layout_Total.calls (a0_0 : Int) (a0_1 : Int) (a0_2 : Int) (a0_3 : Int) (a0_4 : Int) (a0_5 : Int) (a0_6 : Int) (a1 : Int) (a2 : Int) (r1 : Int) (r2 : Bool) (w : World) (h : layout_Total.f a0_0 a0_1 a0_2 a0_3 a0_4 a0_5 a0_6 a1 a2 = some (r1, r2)) :
    Calls Try.prog 9 #[.agg #[.int .i64 a0_0, .int .u32 a0_1, .int .u32 a0_2, .int .u32 a0_3, .int .u32 a0_4, .int .u32 a0_5, .int .u32 a0_6], .int .i64 a1, .int .u64 a2] w fun e w' => e = .returned (.tuple #[.int .u64 r1, .bool r2]) ∧ Below w.heap.size w w' := by
  have HB := Aside0.mk (Below.refl w.heap.size w)
  have H := Option.bind_eq_some_iff.mp h
  clear h
  obtain ⟨⟨x0, x1, x2, x3, x4, x5, x6, y0, y1, y2, y3, y4, y5, y6⟩, h1, h2⟩ := H
  have H1 := Aside0.mk h1
  have H2 := Aside0.mk (show sizes_Total.f 20 [x0, x1, x2, x3, x4, x5, x6] [y0, y1, y2, y3, y4, y5, y6] a2 = some (r1, r2) from h2)
  clear h1 h2
  go_enter Try.func9, Try.ntmps9
  go_wp2_with (first
    | ((with_reducible refine gate_dst (N := 3) rfl ?_); refine box_event ?hg (N := 3) ?hd (cs := #[.int .i64 a0_0, .int .u32 a0_1, .int .u32 a0_2, .int .u32 a0_3, .int .u32 a0_4, .int .u32 a0_5, .int .u32 a0_6]) (t := 24) ?hr ?_; (case hd => rfl); (case hg => rfl); (case hr => first | (go_simp; done) | (go_simp; rfl)); intro g3 hg3 w1 hk3 hb1; have n2 := Aside0.mk (Nat.le_trans HB.out.size (Nat.le_of_eq hg3.symm)); have n1 := Aside0.mk (below_step HB.out hb1); clear HB; have HB := n1; have GE3 := n2; clear n1 n2; have K3 := Aside0.mk hk3; clear hk3 hb1 hg3)
    | ((with_reducible refine gate_dst (N := 11) rfl ?_); refine wpList_load_row rfl 24 _ rfl g3 rfl 24 _ (0, 0) _ K3.out Try.underlying24 rfl (by kernel_rfl) ?_)
    | (go_at_call 15; (with_reducible refine (layout_parts.calls a0_0 a0_1 a0_2 a0_3 a0_4 a0_5 a0_6 a1 x0 x1 x2 x3 x4 x5 x6 y0 y1 y2 y3 y4 y5 y6 _ H1.out).mono ?_); rintro e w2 ⟨rfl, hb⟩; have n1 := Aside0.mk (below_step HB.out hb); clear HB K3 hb; have HB := n1; clear n1; rw [row7, row7])
    | ((with_reducible refine gate_dst (N := 8) rfl ?_); refine box_event ?hg (N := 8) ?hd (cs := rowU (fun _ => 0) 7) (t := 31) ?hr ?_; (case hd => rfl); (case hg => rfl); (case hr => first | (go_simp; done) | (go_simp; rfl)); intro g8 hg8 w3 hk8 hb1; have n2 := Aside0.mk (Nat.le_trans HB.out.size (Nat.le_of_eq hg8.symm)); have n1 := Aside0.mk (below_step HB.out hb1); clear HB; have HB := n1; have GE8 := n2; clear n1 n2; have K8 := Aside0.mk hk8; clear hk8 hb1 hg8)
    | ((with_reducible refine gate_dst (N := 9) rfl ?_); refine box_event ?hg (N := 9) ?hd (cs := rowU (fun _ => 0) 7) (t := 31) ?hr ?_; (case hd => rfl); (case hg => rfl); (case hr => first | (go_simp; done) | (go_simp; rfl)); intro g9 hg9 w4 hk9 hb1; have m8 := Aside0.mk (blk_below K8.out hb1); have NE8_9 := Aside0.mk (show g8 ≠ g9 by rw [hg9]; exact Nat.ne_of_lt (blk_lt K8.out)); clear K8; have K8 := m8; clear m8; have n2 := Aside0.mk (Nat.le_trans HB.out.size (Nat.le_of_eq hg9.symm)); have n1 := Aside0.mk (below_step HB.out hb1); clear HB; have HB := n1; have GE9 := n2; clear n1 n2; have K9 := Aside0.mk hk9; clear hk9 hb1 hg9)
    | (refine row_store rfl 31 8 _ rfl rfl g8 rfl rfl K8.out (by kernel_rfl) rfl (rowU_one _ _) ?_; intro w5 hk hoth hb hsz1; have m9 := Aside0.mk (hoth g9 _ (Ne.symm NE8_9.out) K9.out); have n1 := Aside0.mk (hb _ _ GE8.out HB.out); have n2 := Aside0.mk hk; clear HB K8 K9 hb hk hoth hsz1; have HB := n1; have K8 := n2; have K9 := m9; clear n1 n2 m9)
    | (refine row_store rfl 31 9 _ rfl rfl g9 rfl rfl K9.out (by kernel_rfl) rfl (rowU_one _ _) ?_; intro w6 hk hoth hb hsz1; have m8 := Aside0.mk (hoth g8 _ NE8_9.out K8.out); have n1 := Aside0.mk (hb _ _ GE9.out HB.out); have n2 := Aside0.mk hk; clear HB K9 K8 hb hk hoth hsz1; have HB := n1; have K9 := n2; have K8 := m8; clear n1 n2 m8))
  have C8 : Kd.C (Kd.int .u64) w6.drew (some ⟨g8, 0, none⟩) [x0, x1, x2, x3, x4, x5, x6].length [x0, x1, x2, x3, x4, x5, x6] := row_C (f := (pick7 x0 x1 x2 x3 x4 x5 x6)) (n := 7) (blk_drew K8.out) (by decide)
  have C9 : Kd.C (Kd.int .u64) w6.drew (some ⟨g9, 0, none⟩) [y0, y1, y2, y3, y4, y5, y6].length [y0, y1, y2, y3, y4, y5, y6] := row_C (f := pick7 y0 y1 y2 y3 y4 y5 y6) (n := 7) (blk_drew K9.out) (by decide)
  have hcall := sizes_Total.calls 20 (some ⟨g8, 0, none⟩) 7 [x0, x1, x2, x3, x4, x5, x6] (some ⟨g9, 0, none⟩) 7 [y0, y1, y2, y3, y4, y5, y6] a2 r1 r2 _ C8 (Nat.le_refl 7) C9 (Nat.le_refl 7) H2.out
  clear C8 C9
  dsimp only [List.length_cons, List.length_nil, Nat.reduceAdd] at hcall
  go_region_with (go_simp; refine hcall.mono ?_; rintro e w7 ⟨rfl, hb⟩; have n1 := Aside0.mk (below_step (below_drew1 HB.out) hb); clear HB hb; have HB := n1; clear n1)
  all_goals (try go_wp2)
  all_goals go_ret2
  all_goals exact ⟨rfl, HB.out⟩

/-! ### layout_Lengths: function 11 -/
def layout_Lengths.f (a0_0 : Int) (a0_1 : Int) (a0_2 : Int) (a0_3 : Int) (a0_4 : Int) (a0_5 : Int) (a0_6 : Int) (a1 : Int) : Option (Int × Int × Int × Int × Int × Int × Int) :=
  (layout_parts.f a0_0 a0_1 a0_2 a0_3 a0_4 a0_5 a0_6 a1).bind fun b => some (IntKind.u64.wrap (b.1 * b.2.2.2.2.2.2.2.1), IntKind.u64.wrap (b.2.1 * b.2.2.2.2.2.2.2.2.1), IntKind.u64.wrap (b.2.2.1 * b.2.2.2.2.2.2.2.2.2.1), IntKind.u64.wrap (b.2.2.2.1 * b.2.2.2.2.2.2.2.2.2.2.1), IntKind.u64.wrap (b.2.2.2.2.1 * b.2.2.2.2.2.2.2.2.2.2.2.1), IntKind.u64.wrap (b.2.2.2.2.2.1 * b.2.2.2.2.2.2.2.2.2.2.2.2.1), IntKind.u64.wrap (b.2.2.2.2.2.2.1 * b.2.2.2.2.2.2.2.2.2.2.2.2.2))
set_option maxHeartbeats 8000000 in
set_option maxRecDepth 100000 in
theorem layout_Lengths.calls (a0_0 : Int) (a0_1 : Int) (a0_2 : Int) (a0_3 : Int) (a0_4 : Int) (a0_5 : Int) (a0_6 : Int) (a1 : Int) (r1 r2 r3 r4 r5 r6 r7 : Int) (w : World) (h : layout_Lengths.f a0_0 a0_1 a0_2 a0_3 a0_4 a0_5 a0_6 a1 = some (r1, r2, r3, r4, r5, r6, r7)) :
    Calls Try.prog 11 #[.agg #[.int .i64 a0_0, .int .u32 a0_1, .int .u32 a0_2, .int .u32 a0_3, .int .u32 a0_4, .int .u32 a0_5, .int .u32 a0_6], .int .i64 a1] w fun e w' => e = .returned (.agg #[.int .u64 r1, .int .u64 r2, .int .u64 r3, .int .u64 r4, .int .u64 r5, .int .u64 r6, .int .u64 r7]) ∧ Below w.heap.size w w' := by
  have HB := Aside0.mk (Below.refl w.heap.size w)
  have H := Option.bind_eq_some_iff.mp h
  clear h
  obtain ⟨⟨x0, x1, x2, x3, x4, x5, x6, y0, y1, y2, y3, y4, y5, y6⟩, h1, h2⟩ := H
  have H1 := Aside0.mk h1
  simp only [Option.some.injEq, Prod.mk.injEq] at h2
  obtain ⟨e1, e2, e3, e4, e5, e6, e7⟩ := h2
  have H2 := Aside0.mk (show rowU (fun j => IntKind.u64.wrap (pick7 x0 x1 x2 x3 x4 x5 x6 j * pick7 y0 y1 y2 y3 y4 y5 y6 j)) 7 = #[.int .u64 r1, .int .u64 r2, .int .u64 r3, .int .u64 r4, .int .u64 r5, .int .u64 r6, .int .u64 r7] by rw [← e1, ← e2, ← e3, ← e4, ← e5, ← e6, ← e7]; rfl)
  clear h1 e1 e2 e3 e4 e5 e6 e7
  go_enter Try.func11, Try.ntmps11
  go_wp2_with (first
    | ((with_reducible refine gate_dst (N := 2) rfl ?_); refine box_event ?hg (N := 2) ?hd (cs := #[.int .i64 a0_0, .int .u32 a0_1, .int .u32 a0_2, .int .u32 a0_3, .int .u32 a0_4, .int .u32 a0_5, .int .u32 a0_6]) (t := 24) ?hr ?_; (case hd => rfl); (case hg => rfl); (case hr => first | (go_simp; done) | (go_simp; rfl)); intro g2 hg2 w1 hk2 hb1; have n2 := Aside0.mk (Nat.le_trans HB.out.size (Nat.le_of_eq hg2.symm)); have n1 := Aside0.mk (below_step HB.out hb1); clear HB; have HB := n1; have GE2 := n2; clear n1 n2; have K2 := Aside0.mk hk2; clear hk2 hb1 hg2)
    | ((with_reducible refine gate_dst (N := 4) rfl ?_); refine box_event ?hg (N := 4) ?hd (cs := rowU (fun _ => 0) 7) (t := 31) ?hr ?_; (case hd => rfl); (case hg => rfl); (case hr => first | (go_simp; done) | (go_simp; rfl)); intro g4 hg4 w2 hk4 hb1; have m2 := Aside0.mk (blk_below K2.out hb1); have NE2_4 := Aside0.mk (show g2 ≠ g4 by rw [hg4]; exact Nat.ne_of_lt (blk_lt K2.out)); clear K2; have K2 := m2; clear m2; have n2 := Aside0.mk (Nat.le_trans HB.out.size (Nat.le_of_eq hg4.symm)); have n1 := Aside0.mk (below_step HB.out hb1); clear HB; have HB := n1; have GE4 := n2; clear n1 n2; have K4 := Aside0.mk hk4; clear hk4 hb1 hg4)
    | ((with_reducible refine gate_dst (N := 9) rfl ?_); refine wpList_load_row rfl 24 _ rfl g2 rfl 24 _ (0, 0) _ K2.out Try.underlying24 rfl (by kernel_rfl) ?_)
    | (go_at_call 15; (with_reducible refine (layout_parts.calls a0_0 a0_1 a0_2 a0_3 a0_4 a0_5 a0_6 a1 x0 x1 x2 x3 x4 x5 x6 y0 y1 y2 y3 y4 y5 y6 _ H1.out).mono ?_); rintro e w3 ⟨rfl, hb⟩; have n1 := Aside0.mk (below_step HB.out hb); have n2 := Aside0.mk (blk_below K4.out hb); clear HB K2 K4; have HB := n1; have K4 := n2; clear n1 n2 hb; rw [row7, row7])
    | ((with_reducible refine gate_dst (N := 5) rfl ?_); refine box_event ?hg (N := 5) ?hd (cs := rowU (fun _ => 0) 7) (t := 31) ?hr ?_; (case hd => rfl); (case hg => rfl); (case hr => first | (go_simp; done) | (go_simp; rfl)); intro g5 hg5 w4 hk5 hb1; have m4 := Aside0.mk (blk_below K4.out hb1); have NE4_5 := Aside0.mk (show g4 ≠ g5 by rw [hg5]; exact Nat.ne_of_lt (blk_lt K4.out)); clear K4; have K4 := m4; clear m4; have n2 := Aside0.mk (Nat.le_trans HB.out.size (Nat.le_of_eq hg5.symm)); have n1 := Aside0.mk (below_step HB.out hb1); clear HB; have HB := n1; have GE5 := n2; clear n1 n2; have K5 := Aside0.mk hk5; clear hk5 hb1 hg5)
    | ((with_reducible refine gate_dst (N := 6) rfl ?_); refine box_event ?hg (N := 6) ?hd (cs := rowU (fun _ => 0) 7) (t := 31) ?hr ?_; (case hd => rfl); (case hg => rfl); (case hr => first | (go_simp; done) | (go_simp; rfl)); intro g6 hg6 w5 hk6 hb1; have m4 := Aside0.mk (blk_below K4.out hb1); have NE4_6 := Aside0.mk (show g4 ≠ g6 by rw [hg6]; exact Nat.ne_of_lt (blk_lt K4.out)); clear K4; have K4 := m4; clear m4; have m5 := Aside0.mk (blk_below K5.out hb1); have NE5_6 := Aside0.mk (show g5 ≠ g6 by rw [hg6]; exact Nat.ne_of_lt (blk_lt K5.out)); clear K5; have K5 := m5; clear m5; have n2 := Aside0.mk (Nat.le_trans HB.out.size (Nat.le_of_eq hg6.symm)); have n1 := Aside0.mk (below_step HB.out hb1); clear HB; have HB := n1; have GE6 := n2; clear n1 n2; have K6 := Aside0.mk hk6; clear hk6 hb1 hg6)
    | (refine row_store rfl 31 5 _ rfl rfl g5 rfl rfl K5.out (by kernel_rfl) rfl (rowU_one _ _) ?_; intro w6 hk hoth hb hsz1; have m4 := Aside0.mk (hoth g4 _ NE4_5.out K4.out); have m6 := Aside0.mk (hoth g6 _ (Ne.symm NE5_6.out) K6.out); have n1 := Aside0.mk (hb _ _ GE5.out HB.out); have n2 := Aside0.mk hk; clear HB K4 K5 K6 hb hk hoth hsz1; have HB := n1; have K5 := n2; have K4 := m4; have K6 := m6; clear n1 n2 m4 m6)
    | (refine row_store rfl 31 6 _ rfl rfl g6 rfl rfl K6.out (by kernel_rfl) rfl (rowU_one _ _) ?_; intro w7 hk hoth hb hsz1; have m4 := Aside0.mk (hoth g4 _ NE4_6.out K4.out); have m5 := Aside0.mk (hoth g5 _ NE5_6.out K5.out); have n1 := Aside0.mk (hb _ _ GE6.out HB.out); have n2 := Aside0.mk hk; clear HB K4 K5 K6 hb hk hoth hsz1; have HB := n1; have K6 := n2; have K4 := m4; have K5 := m5; clear n1 n2 m4 m5))
  go_loopw [14] (fun i wr => ∃ k : Nat, k ≤ 7 ∧ i = .int .i64 (k : Int) ∧ Aside0 (wr.heap[g5]? = some (.cells (rowU (fun j => if j < k then IntKind.u64.wrap (pick7 x0 x1 x2 x3 x4 x5 x6 j * pick7 y0 y1 y2 y3 y4 y5 y6 j) else pick7 x0 x1 x2 x3 x4 x5 x6 j) 7) 31 (0, 0))) ∧ Aside0 (wr.heap[g6]? = some (.cells (rowU (pick7 y0 y1 y2 y3 y4 y5 y6) 7) 31 (0, 0))) ∧ Aside0 (wr.heap[g4]? = some (.cells (rowU (fun _ => 0) 7) 31 (0, 0))) ∧ Aside0 (Below w.heap.size w wr)) (fun i _ => 7 - (intOf i).toNat)
  case atStart => exact ⟨0, by omega, rfl, ⟨by rw [K5.out]; rfl⟩, K6, K4, HB⟩
  case round =>
    clear K5 K6 K4 HB
    obtain ⟨k, hk, rfl, K5, K6, K4, HB⟩ := hrel
    by_cases hlt : k < 7
    · have hc5 : wr.cell? ⟨g5, k, none⟩ = some (.int .u64 (pick7 x0 x1 x2 x3 x4 x5 x6 k)) := (blk_cell K5.out k).trans ((rowU_get _ 7 k hlt).trans (by rw [if_neg (Nat.lt_irrefl k)]))
      have hc6 : wr.cell? ⟨g6, k, none⟩ = some (.int .u64 (pick7 y0 y1 y2 y3 y4 y5 y6 k)) := (blk_cell K6.out k).trans (rowU_get _ 7 k hlt)
      have hf5 := blk_frozen K5.out k
      have c1 : decide ((k : Int) < 7) = true := decide_eq_true (by omega)
      go_wp2
      go_region
      go_wp2
      go_roundw
      case rel => exact ⟨k + 1, by omega, by go_num, ⟨(blk_set K5.out k _).trans (by rw [rowU_set _ (fun j => if j < k + 1 then IntKind.u64.wrap (pick7 x0 x1 x2 x3 x4 x5 x6 j * pick7 y0 y1 y2 y3 y4 y5 y6 j) else pick7 x0 x1 x2 x3 x4 x5 x6 j) 7 k _ (if_pos (by omega)) (fun j hj => by by_cases h : j < k <;> simp [h] <;> omega)])⟩, ⟨blk_far K6.out (Ne.symm NE5_6.out) _⟩, ⟨blk_far K4.out NE4_5.out _⟩, ⟨below_drew1 (below_set HB.out GE5.out)⟩⟩
      case measure => simp [intOf]; omega
    · have c1 : decide ((k : Int) < 7) = false := decide_eq_false (by omega)
      obtain rfl : k = 7 := by omega
      have K5' := Aside0.mk (K5.out.trans (by rw [rowU_congr (g := fun j => IntKind.u64.wrap (pick7 x0 x1 x2 x3 x4 x5 x6 j * pick7 y0 y1 y2 y3 y4 y5 y6 j)) (fun j hj => if_pos hj)]))
      clear K5
      go_wp2_with (first
        | ((with_reducible refine gate_dst (N := 26) rfl ?_); refine wpList_load_row rfl 31 _ rfl g5 rfl 31 _ (0, 0) _ K5'.out Try.underlying31 rfl (by kernel_rfl) ?_)
        | (refine row_store rfl 31 4 _ rfl rfl g4 rfl rfl K4.out (by kernel_rfl) rfl (rowU_one _ _) ?_; intro w8 hk hoth hb hsz1; have n1 := Aside0.mk (hb _ _ GE4.out HB.out); have n2 := Aside0.mk hk; clear HB K4 hb hk hoth hsz1; have HB := n1; have K4 := n2; clear n1 n2))
      refine bodyPost_ret (results_cell_row rfl _ _ g4 31 _ (0, 0) _ rfl K4.out Try.underlying31 rfl (by kernel_rfl)) rfl ?_
      exact ⟨congrArg (fun x => Ending.returned (.agg x)) H2.out, HB.out⟩

/-! ### layout_Offsets: function 13 -/
def layout_Offsets.f (a0_0 : Int) (a0_1 : Int) (a0_2 : Int) (a0_3 : Int) (a0_4 : Int) (a0_5 : Int) (a0_6 : Int) (a1 : Int) : Option (Int × Int × Int × Int × Int × Int × Int × Int) :=
  (layout_Lengths.f a0_0 a0_1 a0_2 a0_3 a0_4 a0_5 a0_6 a1).bind fun b => some (sumU (pick7 b.1 b.2.1 b.2.2.1 b.2.2.2.1 b.2.2.2.2.1 b.2.2.2.2.2.1 b.2.2.2.2.2.2) 0, sumU (pick7 b.1 b.2.1 b.2.2.1 b.2.2.2.1 b.2.2.2.2.1 b.2.2.2.2.2.1 b.2.2.2.2.2.2) 1, sumU (pick7 b.1 b.2.1 b.2.2.1 b.2.2.2.1 b.2.2.2.2.1 b.2.2.2.2.2.1 b.2.2.2.2.2.2) 2, sumU (pick7 b.1 b.2.1 b.2.2.1 b.2.2.2.1 b.2.2.2.2.1 b.2.2.2.2.2.1 b.2.2.2.2.2.2) 3, sumU (pick7 b.1 b.2.1 b.2.2.1 b.2.2.2.1 b.2.2.2.2.1 b.2.2.2.2.2.1 b.2.2.2.2.2.2) 4, sumU (pick7 b.1 b.2.1 b.2.2.1 b.2.2.2.1 b.2.2.2.2.1 b.2.2.2.2.2.1 b.2.2.2.2.2.2) 5, sumU (pick7 b.1 b.2.1 b.2.2.1 b.2.2.2.1 b.2.2.2.2.1 b.2.2.2.2.2.1 b.2.2.2.2.2.2) 6, sumU (pick7 b.1 b.2.1 b.2.2.1 b.2.2.2.1 b.2.2.2.2.1 b.2.2.2.2.2.1 b.2.2.2.2.2.2) 7)
set_option maxHeartbeats 8000000 in
set_option maxRecDepth 100000 in
theorem layout_Offsets.calls (a0_0 : Int) (a0_1 : Int) (a0_2 : Int) (a0_3 : Int) (a0_4 : Int) (a0_5 : Int) (a0_6 : Int) (a1 : Int) (r1 r2 r3 r4 r5 r6 r7 r8 : Int) (w : World) (h : layout_Offsets.f a0_0 a0_1 a0_2 a0_3 a0_4 a0_5 a0_6 a1 = some (r1, r2, r3, r4, r5, r6, r7, r8)) :
    Calls Try.prog 13 #[.agg #[.int .i64 a0_0, .int .u32 a0_1, .int .u32 a0_2, .int .u32 a0_3, .int .u32 a0_4, .int .u32 a0_5, .int .u32 a0_6], .int .i64 a1] w fun e w' => e = .returned (.agg #[.int .u64 r1, .int .u64 r2, .int .u64 r3, .int .u64 r4, .int .u64 r5, .int .u64 r6, .int .u64 r7, .int .u64 r8]) ∧ Below w.heap.size w w' := by
  have HB := Aside0.mk (Below.refl w.heap.size w)
  have H := Option.bind_eq_some_iff.mp h
  clear h
  obtain ⟨⟨x0, x1, x2, x3, x4, x5, x6⟩, h1, h2⟩ := H
  have H1 := Aside0.mk h1
  simp only [Option.some.injEq, Prod.mk.injEq] at h2
  obtain ⟨e1, e2, e3, e4, e5, e6, e7, e8⟩ := h2
  have H2 := Aside0.mk (show rowU (sumU (pick7 x0 x1 x2 x3 x4 x5 x6)) 8 = #[.int .u64 r1, .int .u64 r2, .int .u64 r3, .int .u64 r4, .int .u64 r5, .int .u64 r6, .int .u64 r7, .int .u64 r8] by rw [← e1, ← e2, ← e3, ← e4, ← e5, ← e6, ← e7, ← e8]; rfl)
  clear h1 e1 e2 e3 e4 e5 e6 e7 e8
  go_enter Try.func13, Try.ntmps13
  go_wp2_with (first
    | ((with_reducible refine gate_dst (N := 2) rfl ?_); refine box_event ?hg (N := 2) ?hd (cs := #[.int .i64 a0_0, .int .u32 a0_1, .int .u32 a0_2, .int .u32 a0_3, .int .u32 a0_4, .int .u32 a0_5, .int .u32 a0_6]) (t := 24) ?hr ?_; (case hd => rfl); (case hg => rfl); (case hr => first | (go_simp; done) | (go_simp; rfl)); intro g2 hg2 w1 hk2 hb1; have n2 := Aside0.mk (Nat.le_trans HB.out.size (Nat.le_of_eq hg2.symm)); have n1 := Aside0.mk (below_step HB.out hb1); clear HB; have HB := n1; have GE2 := n2; clear n1 n2; have K2 := Aside0.mk hk2; clear hk2 hb1 hg2)
    | ((with_reducible refine gate_dst (N := 4) rfl ?_); refine box_event ?hg (N := 4) ?hd (cs := rowU (fun _ => 0) 8) (t := 33) ?hr ?_; (case hd => rfl); (case hg => rfl); (case hr => first | (go_simp; done) | (go_simp; rfl)); intro g4 hg4 w2 hk4 hb1; have m2 := Aside0.mk (blk_below K2.out hb1); have NE2_4 := Aside0.mk (show g2 ≠ g4 by rw [hg4]; exact Nat.ne_of_lt (blk_lt K2.out)); clear K2; have K2 := m2; clear m2; have n2 := Aside0.mk (Nat.le_trans HB.out.size (Nat.le_of_eq hg4.symm)); have n1 := Aside0.mk (below_step HB.out hb1); clear HB; have HB := n1; have GE4 := n2; clear n1 n2; have K4 := Aside0.mk hk4; clear hk4 hb1 hg4)
    | ((with_reducible refine gate_dst (N := 5) rfl ?_); refine box_event ?hg (N := 5) ?hd (cs := rowU (fun _ => 0) 8) (t := 33) ?hr ?_; (case hd => rfl); (case hg => rfl); (case hr => first | (go_simp; done) | (go_simp; rfl)); intro g5 hg5 w3 hk5 hb1; have m2 := Aside0.mk (blk_below K2.out hb1); have NE2_5 := Aside0.mk (show g2 ≠ g5 by rw [hg5]; exact Nat.ne_of_lt (blk_lt K2.out)); clear K2; have K2 := m2; clear m2; have m4 := Aside0.mk (blk_below K4.out hb1); have NE4_5 := Aside0.mk (show g4 ≠ g5 by rw [hg5]; exact Nat.ne_of_lt (blk_lt K4.out)); clear K4; have K4 := m4; clear m4; have n2 := Aside0.mk (Nat.le_trans HB.out.size (Nat.le_of_eq hg5.symm)); have n1 := Aside0.mk (below_step HB.out hb1); clear HB; have HB := n1; have GE5 := n2; clear n1 n2; have K5 := Aside0.mk hk5; clear hk5 hb1 hg5)
    | ((with_reducible refine gate_dst (N := 8) rfl ?_); refine wpList_load_row rfl 24 _ rfl g2 rfl 24 _ (0, 0) _ K2.out Try.underlying24 rfl (by kernel_rfl) ?_)
    | (go_at_call 11; (with_reducible refine (layout_Lengths.calls a0_0 a0_1 a0_2 a0_3 a0_4 a0_5 a0_6 a1 x0 x1 x2 x3 x4 x5 x6 _ H1.out).mono ?_); rintro e w4 ⟨rfl, hb⟩; have n1 := Aside0.mk (below_step HB.out hb); have m4 := Aside0.mk (blk_below K4.out hb); have m5 := Aside0.mk (blk_below K5.out hb); clear HB K2 K4 K5 hb; have HB := n1; have K4 := m4; have K5 := m5; clear n1 m4 m5; rw [row7]))
  go_loopw [11] (fun i wr => ∃ k : Nat, k ≤ 7 ∧ i = .int .i64 (k : Int) ∧ Aside0 (wr.heap[g5]? = some (.cells (rowU (fun j => if j ≤ k then sumU (pick7 x0 x1 x2 x3 x4 x5 x6) j else 0) 8) 33 (0, 0))) ∧ Aside0 (wr.heap[g4]? = some (.cells (rowU (fun _ => 0) 8) 33 (0, 0))) ∧ Aside0 (Below w.heap.size w wr)) (fun i _ => 7 - (intOf i).toNat)
  case atStart => exact ⟨0, by omega, rfl, ⟨by rw [K5.out, rowU_congr (f := fun j => if j ≤ 0 then sumU (pick7 x0 x1 x2 x3 x4 x5 x6) j else 0) (g := fun _ => 0) (fun j hj => by by_cases h : j ≤ 0 <;> simp [h, show j = 0 → sumU (pick7 x0 x1 x2 x3 x4 x5 x6) j = 0 from fun e => by subst e; rfl] <;> (obtain rfl : j = 0 := by omega) <;> rfl)]⟩, K4, HB⟩
  case round =>
    clear K4 K5 HB
    obtain ⟨k, hk, rfl, K5, K4, HB⟩ := hrel
    by_cases hlt : k < 7
    · have hix : ∀ W, (Instr.index 31 (.agg (rowU (pick7 x0 x1 x2 x3 x4 x5 x6) 7)) (.int .i64 (k : Int))).run Try.prog W = .ok (.int .u64 ((pick7 x0 x1 x2 x3 x4 x5 x6) k)) W := run_index_row (pick7 x0 x1 x2 x3 x4 x5 x6) .i64 k Try.underlying31 (by kernel_rfl) (by kernel_rfl) hlt
      have hc5 : wr.cell? ⟨g5, k, none⟩ = some (.int .u64 (sumU (pick7 x0 x1 x2 x3 x4 x5 x6) k)) := (blk_cell K5.out k).trans ((rowU_get _ 8 k (by omega)).trans (by rw [if_pos (Nat.le_refl k)]))
      have hc6 : wr.cell? ⟨g5, k + 1, none⟩ = some (.int .u64 0) := (blk_cell K5.out (k + 1)).trans ((rowU_get _ 8 (k + 1) (by omega)).trans (by rw [if_neg (by omega)]))
      have hf5 := blk_frozen K5.out (k + 1)
      have c1 : decide ((k : Int) < 7) = true := decide_eq_true (by omega)
      have e1 : ((k : Int) + 1).toNat = k + 1 := by omega
      go_wp2
      go_roundw
      case rel => exact ⟨k + 1, by omega, by go_num, ⟨(blk_set K5.out (k + 1) _).trans (by rw [rowU_set _ (fun j => if j ≤ k + 1 then sumU (pick7 x0 x1 x2 x3 x4 x5 x6) j else 0) 8 (k + 1) _ (by rw [if_pos (Nat.le_refl _)]; rfl) (fun j hj => by by_cases h : j ≤ k <;> simp [h] <;> omega)])⟩, ⟨blk_far K4.out NE4_5.out _⟩, ⟨below_set HB.out GE5.out⟩⟩
      case measure => simp [intOf]; omega
    · have c1 : decide ((k : Int) < 7) = false := decide_eq_false (by omega)
      obtain rfl : k = 7 := by omega
      have K5' := Aside0.mk (K5.out.trans (by rw [rowU_congr (g := sumU (pick7 x0 x1 x2 x3 x4 x5 x6)) (fun j hj => if_pos (show j ≤ 7 by omega))]))
      clear K5
      go_wp2_with (first
        | ((with_reducible refine gate_dst (N := 24) rfl ?_); refine wpList_load_row rfl 33 _ rfl g5 rfl 33 _ (0, 0) _ K5'.out Try.underlying33 rfl (by kernel_rfl) ?_)
        | (refine row_store rfl 33 4 _ rfl rfl g4 rfl rfl K4.out (by kernel_rfl) rfl (rowU_one _ _) ?_; intro w8 hk hoth hb hsz1; have n1 := Aside0.mk (hb _ _ GE4.out HB.out); have n2 := Aside0.mk hk; clear HB K4 hb hk hoth hsz1; have HB := n1; have K4 := n2; clear n1 n2))
      refine bodyPost_ret (results_cell_row rfl _ _ g4 33 _ (0, 0) _ rfl K4.out Try.underlying33 rfl (by kernel_rfl)) rfl ?_
      exact ⟨congrArg (fun x => Ending.returned (.agg x)) H2.out, HB.out⟩

/-! ### zoneinfolaw14_awake: function 7 -/
def zoneinfolaw14_awake.f  : Option (Bool) := (layout_Total.f 0 0 0 0 2 1 4 4 20).bind fun bt113 => ((layout_Total.f 0 0 0 0 2 1 4 4 19).bind fun bt115 => ((layout_Total.f 0 4294967295 4294967295 4294967295 4294967295 4294967295 4294967295 8 18446744073709551615).bind fun bt118 => (if bt113.1 = 20 then (if bt113.2 = true then (if bt115.2 = true then (none) else (if bt118.1 = 128849018850 then (if bt118.2 = true then ((layout_Lengths.f 0 0 0 0 2 1 4 8).bind fun bt120 => (if (bt120.1 == 16 && (bt120.2.1 == 2 && (bt120.2.2.1 == 6 && (bt120.2.2.2.1 == 4 && (bt120.2.2.2.2.1 == 0 && (bt120.2.2.2.2.2.1 == 0 && (bt120.2.2.2.2.2.2 == 0))))))) = true then ((layout_Offsets.f 0 0 0 0 2 1 4 4).bind fun bt127 => (some (bt127.1 == 0 && (bt127.2.1 == 8 && (bt127.2.2.1 == 10 && (bt127.2.2.2.1 == 16 && (bt127.2.2.2.2.1 == 20 && (bt127.2.2.2.2.2.1 == 20 && (bt127.2.2.2.2.2.2.1 == 20 && (bt127.2.2.2.2.2.2.2 == 20)))))))))) else (none))) else (none)) else (none))) else (none)) else (none))))
set_option maxHeartbeats 8000000 in
set_option maxRecDepth 100000 in
theorem zoneinfolaw14_awake.calls  (r : Bool) (w : World) (h : zoneinfolaw14_awake.f  = some r) :
    Calls Try.prog 7 #[] w fun e w' => e = .returned (.bool r) ∧ Below w.heap.size w w' := by
  have hu24 := Try.underlying24
  have hu31 := Try.underlying31
  have hu33 := Try.underlying33
  have HB := Aside0.mk (Below.refl w.heap.size w)
  have H : ((layout_Total.f 0 0 0 0 2 1 4 4 20).bind fun bt113 => ((layout_Total.f 0 0 0 0 2 1 4 4 19).bind fun bt115 => ((layout_Total.f 0 4294967295 4294967295 4294967295 4294967295 4294967295 4294967295 8 18446744073709551615).bind fun bt118 => (if bt113.1 = 20 then (if bt113.2 = true then (if bt115.2 = true then (none) else (if bt118.1 = 128849018850 then (if bt118.2 = true then ((layout_Lengths.f 0 0 0 0 2 1 4 8).bind fun bt120 => (if (bt120.1 == 16 && (bt120.2.1 == 2 && (bt120.2.2.1 == 6 && (bt120.2.2.2.1 == 4 && (bt120.2.2.2.2.1 == 0 && (bt120.2.2.2.2.2.1 == 0 && (bt120.2.2.2.2.2.2 == 0))))))) = true then ((layout_Offsets.f 0 0 0 0 2 1 4 4).bind fun bt127 => (some (bt127.1 == 0 && (bt127.2.1 == 8 && (bt127.2.2.1 == 10 && (bt127.2.2.2.1 == 16 && (bt127.2.2.2.2.1 == 20 && (bt127.2.2.2.2.2.1 == 20 && (bt127.2.2.2.2.2.2.1 == 20 && (bt127.2.2.2.2.2.2.2 == 20)))))))))) else (none))) else (none)) else (none))) else (none)) else (none))))) = some r := h
  clear h
  replace H := Option.bind_eq_some_iff.mp H
  obtain ⟨⟨t113, t114⟩, A10, H⟩ := H
  replace H : ((layout_Total.f 0 0 0 0 2 1 4 4 19).bind fun bt115 => ((layout_Total.f 0 4294967295 4294967295 4294967295 4294967295 4294967295 4294967295 8 18446744073709551615).bind fun bt118 => (if t113 = 20 then (if t114 = true then (if bt115.2 = true then (none) else (if bt118.1 = 128849018850 then (if bt118.2 = true then ((layout_Lengths.f 0 0 0 0 2 1 4 8).bind fun bt120 => (if (bt120.1 == 16 && (bt120.2.1 == 2 && (bt120.2.2.1 == 6 && (bt120.2.2.2.1 == 4 && (bt120.2.2.2.2.1 == 0 && (bt120.2.2.2.2.2.1 == 0 && (bt120.2.2.2.2.2.2 == 0))))))) = true then ((layout_Offsets.f 0 0 0 0 2 1 4 4).bind fun bt127 => (some (bt127.1 == 0 && (bt127.2.1 == 8 && (bt127.2.2.1 == 10 && (bt127.2.2.2.1 == 16 && (bt127.2.2.2.2.1 == 20 && (bt127.2.2.2.2.2.1 == 20 && (bt127.2.2.2.2.2.2.1 == 20 && (bt127.2.2.2.2.2.2.2 == 20)))))))))) else (none))) else (none)) else (none))) else (none)) else (none)))) = some r := H
  have A1 := Aside0.mk A10
  clear A10
  replace H := Option.bind_eq_some_iff.mp H
  obtain ⟨⟨t115, t116⟩, A20, H⟩ := H
  replace H : ((layout_Total.f 0 4294967295 4294967295 4294967295 4294967295 4294967295 4294967295 8 18446744073709551615).bind fun bt118 => (if t113 = 20 then (if t114 = true then (if t116 = true then (none) else (if bt118.1 = 128849018850 then (if bt118.2 = true then ((layout_Lengths.f 0 0 0 0 2 1 4 8).bind fun bt120 => (if (bt120.1 == 16 && (bt120.2.1 == 2 && (bt120.2.2.1 == 6 && (bt120.2.2.2.1 == 4 && (bt120.2.2.2.2.1 == 0 && (bt120.2.2.2.2.2.1 == 0 && (bt120.2.2.2.2.2.2 == 0))))))) = true then ((layout_Offsets.f 0 0 0 0 2 1 4 4).bind fun bt127 => (some (bt127.1 == 0 && (bt127.2.1 == 8 && (bt127.2.2.1 == 10 && (bt127.2.2.2.1 == 16 && (bt127.2.2.2.2.1 == 20 && (bt127.2.2.2.2.2.1 == 20 && (bt127.2.2.2.2.2.2.1 == 20 && (bt127.2.2.2.2.2.2.2 == 20)))))))))) else (none))) else (none)) else (none))) else (none)) else (none))) = some r := H
  have A2 := Aside0.mk A20
  clear A20
  replace H := Option.bind_eq_some_iff.mp H
  obtain ⟨⟨t118, t119⟩, A30, H⟩ := H
  replace H : (if t113 = 20 then (if t114 = true then (if t116 = true then (none) else (if t118 = 128849018850 then (if t119 = true then ((layout_Lengths.f 0 0 0 0 2 1 4 8).bind fun bt120 => (if (bt120.1 == 16 && (bt120.2.1 == 2 && (bt120.2.2.1 == 6 && (bt120.2.2.2.1 == 4 && (bt120.2.2.2.2.1 == 0 && (bt120.2.2.2.2.2.1 == 0 && (bt120.2.2.2.2.2.2 == 0))))))) = true then ((layout_Offsets.f 0 0 0 0 2 1 4 4).bind fun bt127 => (some (bt127.1 == 0 && (bt127.2.1 == 8 && (bt127.2.2.1 == 10 && (bt127.2.2.2.1 == 16 && (bt127.2.2.2.2.1 == 20 && (bt127.2.2.2.2.2.1 == 20 && (bt127.2.2.2.2.2.2.1 == 20 && (bt127.2.2.2.2.2.2.2 == 20)))))))))) else (none))) else (none)) else (none))) else (none)) else (none)) = some r := H
  have A3 := Aside0.mk A30
  clear A30
  by_cases c4 : t113 = 20
  · rw [if_pos c4] at H
    have c4b0 : (t113 == 20) = true := beq_iff_eq.mpr c4
    have c4b1 : (t113 != 20) = false := bne_eq_false_iff_eq.mpr c4
    clear c4
    by_cases c5 : t114 = true
    · subst c5
      have H1 : (if t116 = true then (none) else (if t118 = 128849018850 then (if t119 = true then ((layout_Lengths.f 0 0 0 0 2 1 4 8).bind fun bt120 => (if (bt120.1 == 16 && (bt120.2.1 == 2 && (bt120.2.2.1 == 6 && (bt120.2.2.2.1 == 4 && (bt120.2.2.2.2.1 == 0 && (bt120.2.2.2.2.2.1 == 0 && (bt120.2.2.2.2.2.2 == 0))))))) = true then ((layout_Offsets.f 0 0 0 0 2 1 4 4).bind fun bt127 => (some (bt127.1 == 0 && (bt127.2.1 == 8 && (bt127.2.2.1 == 10 && (bt127.2.2.2.1 == 16 && (bt127.2.2.2.2.1 == 20 && (bt127.2.2.2.2.2.1 == 20 && (bt127.2.2.2.2.2.2.1 == 20 && (bt127.2.2.2.2.2.2.2 == 20)))))))))) else (none))) else (none)) else (none))) = some r := by rw [if_pos rfl] at H; exact H
      clear H
      have H := H1
      clear H1
      by_cases c6 : t116 = true
      · subst c6
        have H1 : (none) = some r := by rw [if_pos rfl] at H; exact H
        clear H
        have H := H1
        clear H1
        exact absurd H (by simp)
      · replace c6 := Bool.eq_false_iff.mpr c6
        subst c6
        have H1 : (if t118 = 128849018850 then (if t119 = true then ((layout_Lengths.f 0 0 0 0 2 1 4 8).bind fun bt120 => (if (bt120.1 == 16 && (bt120.2.1 == 2 && (bt120.2.2.1 == 6 && (bt120.2.2.2.1 == 4 && (bt120.2.2.2.2.1 == 0 && (bt120.2.2.2.2.2.1 == 0 && (bt120.2.2.2.2.2.2 == 0))))))) = true then ((layout_Offsets.f 0 0 0 0 2 1 4 4).bind fun bt127 => (some (bt127.1 == 0 && (bt127.2.1 == 8 && (bt127.2.2.1 == 10 && (bt127.2.2.2.1 == 16 && (bt127.2.2.2.2.1 == 20 && (bt127.2.2.2.2.2.1 == 20 && (bt127.2.2.2.2.2.2.1 == 20 && (bt127.2.2.2.2.2.2.2 == 20)))))))))) else (none))) else (none)) else (none)) = some r := by rw [if_neg (show ¬ (false = true) by decide)] at H; exact H
        clear H
        have H := H1
        clear H1
        by_cases c7 : t118 = 128849018850
        · rw [if_pos c7] at H
          have c7b0 : (t118 == 128849018850) = true := beq_iff_eq.mpr c7
          have c7b1 : (t118 != 128849018850) = false := bne_eq_false_iff_eq.mpr c7
          clear c7
          by_cases c8 : t119 = true
          · subst c8
            have H1 : ((layout_Lengths.f 0 0 0 0 2 1 4 8).bind fun bt120 => (if (bt120.1 == 16 && (bt120.2.1 == 2 && (bt120.2.2.1 == 6 && (bt120.2.2.2.1 == 4 && (bt120.2.2.2.2.1 == 0 && (bt120.2.2.2.2.2.1 == 0 && (bt120.2.2.2.2.2.2 == 0))))))) = true then ((layout_Offsets.f 0 0 0 0 2 1 4 4).bind fun bt127 => (some (bt127.1 == 0 && (bt127.2.1 == 8 && (bt127.2.2.1 == 10 && (bt127.2.2.2.1 == 16 && (bt127.2.2.2.2.1 == 20 && (bt127.2.2.2.2.2.1 == 20 && (bt127.2.2.2.2.2.2.1 == 20 && (bt127.2.2.2.2.2.2.2 == 20)))))))))) else (none))) = some r := by rw [if_pos rfl] at H; exact H
            clear H
            have H := H1
            clear H1
            replace H := Option.bind_eq_some_iff.mp H
            obtain ⟨⟨t120, t121, t122, t123, t124, t125, t126⟩, A90, H⟩ := H
            replace H : (if (t120 == 16 && (t121 == 2 && (t122 == 6 && (t123 == 4 && (t124 == 0 && (t125 == 0 && (t126 == 0))))))) = true then ((layout_Offsets.f 0 0 0 0 2 1 4 4).bind fun bt127 => (some (bt127.1 == 0 && (bt127.2.1 == 8 && (bt127.2.2.1 == 10 && (bt127.2.2.2.1 == 16 && (bt127.2.2.2.2.1 == 20 && (bt127.2.2.2.2.2.1 == 20 && (bt127.2.2.2.2.2.2.1 == 20 && (bt127.2.2.2.2.2.2.2 == 20)))))))))) else (none)) = some r := H
            have A9 := Aside0.mk A90
            clear A90
            by_cases c10 : (t120 == 16 && (t121 == 2 && (t122 == 6 && (t123 == 4 && (t124 == 0 && (t125 == 0 && (t126 == 0))))))) = true
            · rw [if_pos c10] at H
              have c10b0 : (t120 == 16 && (t121 == 2 && (t122 == 6 && (t123 == 4 && (t124 == 0 && (t125 == 0 && (t126 == 0))))))) = true := c10
              (try (have c10b1 : decide (t120 = 16 && (t121 == 2 && (t122 == 6 && (t123 == 4 && (t124 == 0 && (t125 == 0 && (t126 == 0))))))) = true := by simpa using c10))
              (try (have c10b2 : (t120 == 16 && (t121 == 2 && (t122 == 6 && (t123 == 4 && (t124 == 0 && (t125 == 0 && (t126 == 0))))))) = true := by simpa using c10))
              clear c10
              replace H := Option.bind_eq_some_iff.mp H
              obtain ⟨⟨t127, t128, t129, t130, t131, t132, t133, t134⟩, A110, H⟩ := H
              replace H : (some (t127 == 0 && (t128 == 8 && (t129 == 10 && (t130 == 16 && (t131 == 20 && (t132 == 20 && (t133 == 20 && (t134 == 20))))))))) = some r := H
              have A11 := Aside0.mk A110
              clear A110
              obtain rfl := Option.some.inj H
              go_enter Try.func7, Try.ntmps7
              go_wp2_with (first | ((with_reducible refine gate_dst (N := 1) rfl ?_); refine box_event ?hg (N := 1) ?hd (cs := #[.int .i64 0, .int .u32 0, .int .u32 0, .int .u32 0, .int .u32 0, .int .u32 0, .int .u32 0]) (t := 24) ?hr ?_; (case hd => rfl); (case hg => rfl); (case hr => first | (go_simp; done) | (go_simp; rfl)); intro gb112 hg w12 hbox hb; have n0_ := Aside0.mk (below_step (by repeat (first | (with_reducible first | exact HB.out | apply below_alloc | apply pw_below_drewN | apply below_drew1) | exact HB.out)) hb); have n1_ := Aside0.mk (hbox); have n2_ := Aside0.mk ((by rw [hg]; exact (below_size (by repeat (first | (with_reducible first | exact HB.out | apply below_alloc | apply pw_below_drewN | apply below_drew1) | exact HB.out))) : w.heap.size ≤ gb112)); have n3_ := Aside0.mk ((by rw [hg]; exact (below_size (by repeat (first | (with_reducible first | exact HB.out | apply below_alloc | apply pw_below_drewN | apply below_drew1) | exact HB.out))) : w.heap.size ≤ gb112)); clear HB; have HB := n0_; have BK112 := n1_; have GW112 := n2_; have GE112 := n3_; clear n0_ n1_ n2_ n3_; clear hb hbox hg; have hcz13_0 : w12.cell? ⟨gb112, 0, none⟩ = some (.int .i64 0) := (blk_cell BK112.out 0).trans rfl; have hcz13_1 : w12.cell? ⟨gb112, 1, none⟩ = some (.int .u32 0) := (blk_cell BK112.out 1).trans rfl; have hcz13_2 : w12.cell? ⟨gb112, 2, none⟩ = some (.int .u32 0) := (blk_cell BK112.out 2).trans rfl; have hcz13_3 : w12.cell? ⟨gb112, 3, none⟩ = some (.int .u32 0) := (blk_cell BK112.out 3).trans rfl; have hcz13_4 : w12.cell? ⟨gb112, 4, none⟩ = some (.int .u32 0) := (blk_cell BK112.out 4).trans rfl; have hcz13_5 : w12.cell? ⟨gb112, 5, none⟩ = some (.int .u32 0) := (blk_cell BK112.out 5).trans rfl; have hcz13_6 : w12.cell? ⟨gb112, 6, none⟩ = some (.int .u32 0) := (blk_cell BK112.out 6).trans rfl; have hfz13_0 := blk_frozen BK112.out 0; have hfz13_1 := blk_frozen BK112.out 1; have hfz13_2 := blk_frozen BK112.out 2; have hfz13_3 := blk_frozen BK112.out 3; have hfz13_4 := blk_frozen BK112.out 4; have hfz13_5 := blk_frozen BK112.out 5; have hfz13_6 := blk_frozen BK112.out 6) | ((with_reducible refine gate_callee (f := 9) rfl ?_); refine goesL_ (some 12) rfl rfl Try.func9 (by kernel_rfl) rfl #[.agg #[.int .i64 0, .int .u32 0, .int .u32 0, .int .u32 0, .int .u32 2, .int .u32 1, .int .u32 4], .int .i64 4, .int .u64 20] rfl (by (try simp only [List.map_toArray, List.map_cons, List.map_nil]); first | done | rfl | (simp only [List.length_drop, List.length_take]; rfl)) ?_; (with_reducible refine (layout_Total.calls 0 0 0 0 2 1 4 4 20 t113 true _ A1.out).mono ?_); rintro e w14 ⟨rfl, hb⟩; refine ⟨_, rfl, ?_⟩; have n0_ := Aside0.mk (blk_below (g := gb112) (o := .cells #[.int .i64 0, .int .u32 0, .int .u32 0, .int .u32 0, .int .u32 2, .int .u32 1, .int .u32 4] 24 (0, 0)) (by (with_reducible repeat (first | refine blk_drewN ?_ _ | refine blk_drew ?_ | refine blk_alloc ?_ _)); refine blk_put (cs := #[.int .i64 0, .int .u32 0, .int .u32 0, .int .u32 0, .int .u32 2, .int .u32 1, .int .u32 0]) ?_ 6 _ rfl; (with_reducible repeat (first | refine blk_drewN ?_ _ | refine blk_drew ?_ | refine blk_alloc ?_ _)); refine blk_put (cs := #[.int .i64 0, .int .u32 0, .int .u32 0, .int .u32 0, .int .u32 2, .int .u32 0, .int .u32 0]) ?_ 5 _ rfl; (with_reducible repeat (first | refine blk_drewN ?_ _ | refine blk_drew ?_ | refine blk_alloc ?_ _)); refine blk_put (cs := #[.int .i64 0, .int .u32 0, .int .u32 0, .int .u32 0, .int .u32 0, .int .u32 0, .int .u32 0]) ?_ 4 _ rfl; (with_reducible repeat (first | refine blk_drewN ?_ _ | refine blk_drew ?_ | refine blk_alloc ?_ _)); refine blk_put (cs := #[.int .i64 0, .int .u32 0, .int .u32 0, .int .u32 0, .int .u32 0, .int .u32 0, .int .u32 0]) ?_ 3 _ rfl; (with_reducible repeat (first | refine blk_drewN ?_ _ | refine blk_drew ?_ | refine blk_alloc ?_ _)); refine blk_put (cs := #[.int .i64 0, .int .u32 0, .int .u32 0, .int .u32 0, .int .u32 0, .int .u32 0, .int .u32 0]) ?_ 2 _ rfl; (with_reducible repeat (first | refine blk_drewN ?_ _ | refine blk_drew ?_ | refine blk_alloc ?_ _)); refine blk_put (cs := #[.int .i64 0, .int .u32 0, .int .u32 0, .int .u32 0, .int .u32 0, .int .u32 0, .int .u32 0]) ?_ 1 _ rfl; (with_reducible repeat (first | refine blk_drewN ?_ _ | refine blk_drew ?_ | refine blk_alloc ?_ _)); refine blk_put (cs := #[.int .i64 0, .int .u32 0, .int .u32 0, .int .u32 0, .int .u32 0, .int .u32 0, .int .u32 0]) ?_ 0 _ rfl; (with_reducible repeat (first | refine blk_drewN ?_ _ | refine blk_drew ?_ | refine blk_alloc ?_ _)); exact BK112.out) hb); have n1_ := Aside0.mk (below_step (by repeat (first | (with_reducible first | exact HB.out | apply below_alloc | apply pw_below_drewN | apply below_drew1 | refine below_set ?_ GE112.out) | exact HB.out)) hb); clear BK112; clear HB; have BK112 := n0_; have HB := n1_; clear n0_ n1_; (try clear hb); (try clear hb2); (try clear hk); (try clear hi); have hcz15_0 : w14.cell? ⟨gb112, 0, none⟩ = some (.int .i64 0) := (blk_cell BK112.out 0).trans rfl; have hcz15_1 : w14.cell? ⟨gb112, 1, none⟩ = some (.int .u32 0) := (blk_cell BK112.out 1).trans rfl; have hcz15_2 : w14.cell? ⟨gb112, 2, none⟩ = some (.int .u32 0) := (blk_cell BK112.out 2).trans rfl; have hcz15_3 : w14.cell? ⟨gb112, 3, none⟩ = some (.int .u32 0) := (blk_cell BK112.out 3).trans rfl; have hcz15_4 : w14.cell? ⟨gb112, 4, none⟩ = some (.int .u32 2) := (blk_cell BK112.out 4).trans rfl; have hcz15_5 : w14.cell? ⟨gb112, 5, none⟩ = some (.int .u32 1) := (blk_cell BK112.out 5).trans rfl; have hcz15_6 : w14.cell? ⟨gb112, 6, none⟩ = some (.int .u32 4) := (blk_cell BK112.out 6).trans rfl; have hfz15_0 := blk_frozen BK112.out 0; have hfz15_1 := blk_frozen BK112.out 1; have hfz15_2 := blk_frozen BK112.out 2; have hfz15_3 := blk_frozen BK112.out 3; have hfz15_4 := blk_frozen BK112.out 4; have hfz15_5 := blk_frozen BK112.out 5; have hfz15_6 := blk_frozen BK112.out 6) | ((with_reducible refine gate_callee (f := 9) rfl ?_); refine goesL_ (some 17) rfl rfl Try.func9 (by kernel_rfl) rfl #[.agg #[.int .i64 0, .int .u32 0, .int .u32 0, .int .u32 0, .int .u32 2, .int .u32 1, .int .u32 4], .int .i64 4, .int .u64 19] rfl (by (try simp only [List.map_toArray, List.map_cons, List.map_nil]); first | done | rfl | (simp only [List.length_drop, List.length_take]; rfl)) ?_; (with_reducible refine (layout_Total.calls 0 0 0 0 2 1 4 4 19 t115 false _ A2.out).mono ?_); rintro e w16 ⟨rfl, hb⟩; refine ⟨_, rfl, ?_⟩; have n0_ := Aside0.mk (blk_below (g := gb112) (o := .cells #[.int .i64 0, .int .u32 0, .int .u32 0, .int .u32 0, .int .u32 2, .int .u32 1, .int .u32 4] 24 (0, 0)) (by (with_reducible repeat (first | refine blk_drewN ?_ _ | refine blk_drew ?_ | refine blk_alloc ?_ _)); exact BK112.out) hb); have n1_ := Aside0.mk (below_step (by repeat (first | (with_reducible first | exact HB.out | apply below_alloc | apply pw_below_drewN | apply below_drew1 | refine below_set ?_ GE112.out) | exact HB.out)) hb); clear BK112; clear HB; have BK112 := n0_; have HB := n1_; clear n0_ n1_; (try clear hb); (try clear hb2); (try clear hk); (try clear hi)) | ((with_reducible refine gate_dst (N := 6) rfl ?_); refine box_event ?hg (N := 6) ?hd (cs := #[.int .i64 0, .int .u32 0, .int .u32 0, .int .u32 0, .int .u32 0, .int .u32 0, .int .u32 0]) (t := 24) ?hr ?_; (case hd => rfl); (case hg => rfl); (case hr => first | (go_simp; done) | (go_simp; rfl)); intro gb117 hg w17 hbox hb; have n0_ := Aside0.mk (blk_below (g := gb112) (o := .cells #[.int .i64 0, .int .u32 0, .int .u32 0, .int .u32 0, .int .u32 2, .int .u32 1, .int .u32 4] 24 (0, 0)) (by (with_reducible repeat (first | refine blk_drewN ?_ _ | refine blk_drew ?_ | refine blk_alloc ?_ _)); exact BK112.out) hb); have n1_ := Aside0.mk (below_step (by repeat (first | (with_reducible first | exact HB.out | apply below_alloc | apply pw_below_drewN | apply below_drew1 | refine below_set ?_ GE112.out) | exact HB.out)) hb); have n2_ := Aside0.mk (hbox); have n3_ := Aside0.mk ((by rw [hg]; exact (below_size (by repeat (first | (with_reducible first | exact HB.out | apply below_alloc | apply pw_below_drewN | apply below_drew1 | refine below_set ?_ GE112.out) | exact HB.out))) : w.heap.size ≤ gb117)); have n4_ := Aside0.mk ((by rw [hg]; exact (below_size (by repeat (first | (with_reducible first | exact HB.out | apply below_alloc | apply pw_below_drewN | apply below_drew1 | refine below_set ?_ GE112.out) | exact HB.out))) : w.heap.size ≤ gb117)); have n5_ := Aside0.mk ((by rw [hg]; exact Nat.ne_of_lt (blk_lt (g := gb112) (o := .cells #[.int .i64 0, .int .u32 0, .int .u32 0, .int .u32 0, .int .u32 2, .int .u32 1, .int .u32 4] 24 (0, 0)) (by (with_reducible repeat (first | refine blk_drewN ?_ _ | refine blk_drew ?_ | refine blk_alloc ?_ _)); exact BK112.out)) : gb112 ≠ gb117)); have n6_ := Aside0.mk ((by rw [hg]; exact Nat.ne_of_gt (blk_lt (g := gb112) (o := .cells #[.int .i64 0, .int .u32 0, .int .u32 0, .int .u32 0, .int .u32 2, .int .u32 1, .int .u32 4] 24 (0, 0)) (by (with_reducible repeat (first | refine blk_drewN ?_ _ | refine blk_drew ?_ | refine blk_alloc ?_ _)); exact BK112.out)) : gb117 ≠ gb112)); clear BK112; clear HB; have BK112 := n0_; have HB := n1_; have BK117 := n2_; have GW117 := n3_; have GE117 := n4_; have NB112_117 := n5_; have NB117_112 := n6_; clear n0_ n1_ n2_ n3_ n4_ n5_ n6_; clear hb hbox hg; have hnb18 := NB117_112.out; have hnc18 := NB112_117.out; have hcz19_0 : w17.cell? ⟨gb117, 0, none⟩ = some (.int .i64 0) := (blk_cell BK117.out 0).trans rfl; have hcz19_1 : w17.cell? ⟨gb117, 1, none⟩ = some (.int .u32 0) := (blk_cell BK117.out 1).trans rfl; have hcz19_2 : w17.cell? ⟨gb117, 2, none⟩ = some (.int .u32 0) := (blk_cell BK117.out 2).trans rfl; have hcz19_3 : w17.cell? ⟨gb117, 3, none⟩ = some (.int .u32 0) := (blk_cell BK117.out 3).trans rfl; have hcz19_4 : w17.cell? ⟨gb117, 4, none⟩ = some (.int .u32 0) := (blk_cell BK117.out 4).trans rfl; have hcz19_5 : w17.cell? ⟨gb117, 5, none⟩ = some (.int .u32 0) := (blk_cell BK117.out 5).trans rfl; have hcz19_6 : w17.cell? ⟨gb117, 6, none⟩ = some (.int .u32 0) := (blk_cell BK117.out 6).trans rfl; have hfz19_0 := blk_frozen BK117.out 0; have hfz19_1 := blk_frozen BK117.out 1; have hfz19_2 := blk_frozen BK117.out 2; have hfz19_3 := blk_frozen BK117.out 3; have hfz19_4 := blk_frozen BK117.out 4; have hfz19_5 := blk_frozen BK117.out 5; have hfz19_6 := blk_frozen BK117.out 6) | ((with_reducible refine gate_callee (f := 9) rfl ?_); refine goesL_ (some 23) rfl rfl Try.func9 (by kernel_rfl) rfl #[.agg #[.int .i64 0, .int .u32 4294967295, .int .u32 4294967295, .int .u32 4294967295, .int .u32 4294967295, .int .u32 4294967295, .int .u32 4294967295], .int .i64 8, .int .u64 18446744073709551615] rfl (by (try simp only [List.map_toArray, List.map_cons, List.map_nil]); first | done | rfl | (simp only [List.length_drop, List.length_take]; rfl)) ?_; (with_reducible refine (layout_Total.calls 0 4294967295 4294967295 4294967295 4294967295 4294967295 4294967295 8 18446744073709551615 t118 true _ A3.out).mono ?_); rintro e w20 ⟨rfl, hb⟩; refine ⟨_, rfl, ?_⟩; have n0_ := Aside0.mk (blk_below (g := gb112) (o := .cells #[.int .i64 0, .int .u32 0, .int .u32 0, .int .u32 0, .int .u32 2, .int .u32 1, .int .u32 4] 24 (0, 0)) (by (with_reducible repeat (first | refine blk_drewN ?_ _ | refine blk_drew ?_ | refine blk_alloc ?_ _)); refine blk_far ?_ NB112_117.out _; (with_reducible repeat (first | refine blk_drewN ?_ _ | refine blk_drew ?_ | refine blk_alloc ?_ _)); refine blk_far ?_ NB112_117.out _; (with_reducible repeat (first | refine blk_drewN ?_ _ | refine blk_drew ?_ | refine blk_alloc ?_ _)); refine blk_far ?_ NB112_117.out _; (with_reducible repeat (first | refine blk_drewN ?_ _ | refine blk_drew ?_ | refine blk_alloc ?_ _)); refine blk_far ?_ NB112_117.out _; (with_reducible repeat (first | refine blk_drewN ?_ _ | refine blk_drew ?_ | refine blk_alloc ?_ _)); refine blk_far ?_ NB112_117.out _; (with_reducible repeat (first | refine blk_drewN ?_ _ | refine blk_drew ?_ | refine blk_alloc ?_ _)); refine blk_far ?_ NB112_117.out _; (with_reducible repeat (first | refine blk_drewN ?_ _ | refine blk_drew ?_ | refine blk_alloc ?_ _)); refine blk_far ?_ NB112_117.out _; (with_reducible repeat (first | refine blk_drewN ?_ _ | refine blk_drew ?_ | refine blk_alloc ?_ _)); exact BK112.out) hb); have n1_ := Aside0.mk (blk_below (g := gb117) (o := .cells #[.int .i64 0, .int .u32 4294967295, .int .u32 4294967295, .int .u32 4294967295, .int .u32 4294967295, .int .u32 4294967295, .int .u32 4294967295] 24 (0, 0)) (by (with_reducible repeat (first | refine blk_drewN ?_ _ | refine blk_drew ?_ | refine blk_alloc ?_ _)); refine blk_put (cs := #[.int .i64 0, .int .u32 4294967295, .int .u32 4294967295, .int .u32 4294967295, .int .u32 4294967295, .int .u32 4294967295, .int .u32 0]) ?_ 6 _ rfl; (with_reducible repeat (first | refine blk_drewN ?_ _ | refine blk_drew ?_ | refine blk_alloc ?_ _)); refine blk_put (cs := #[.int .i64 0, .int .u32 4294967295, .int .u32 4294967295, .int .u32 4294967295, .int .u32 4294967295, .int .u32 0, .int .u32 0]) ?_ 5 _ rfl; (with_reducible repeat (first | refine blk_drewN ?_ _ | refine blk_drew ?_ | refine blk_alloc ?_ _)); refine blk_put (cs := #[.int .i64 0, .int .u32 4294967295, .int .u32 4294967295, .int .u32 4294967295, .int .u32 0, .int .u32 0, .int .u32 0]) ?_ 4 _ rfl; (with_reducible repeat (first | refine blk_drewN ?_ _ | refine blk_drew ?_ | refine blk_alloc ?_ _)); refine blk_put (cs := #[.int .i64 0, .int .u32 4294967295, .int .u32 4294967295, .int .u32 0, .int .u32 0, .int .u32 0, .int .u32 0]) ?_ 3 _ rfl; (with_reducible repeat (first | refine blk_drewN ?_ _ | refine blk_drew ?_ | refine blk_alloc ?_ _)); refine blk_put (cs := #[.int .i64 0, .int .u32 4294967295, .int .u32 0, .int .u32 0, .int .u32 0, .int .u32 0, .int .u32 0]) ?_ 2 _ rfl; (with_reducible repeat (first | refine blk_drewN ?_ _ | refine blk_drew ?_ | refine blk_alloc ?_ _)); refine blk_put (cs := #[.int .i64 0, .int .u32 0, .int .u32 0, .int .u32 0, .int .u32 0, .int .u32 0, .int .u32 0]) ?_ 1 _ rfl; (with_reducible repeat (first | refine blk_drewN ?_ _ | refine blk_drew ?_ | refine blk_alloc ?_ _)); refine blk_put (cs := #[.int .i64 0, .int .u32 0, .int .u32 0, .int .u32 0, .int .u32 0, .int .u32 0, .int .u32 0]) ?_ 0 _ rfl; (with_reducible repeat (first | refine blk_drewN ?_ _ | refine blk_drew ?_ | refine blk_alloc ?_ _)); exact BK117.out) hb); have n2_ := Aside0.mk (below_step (by repeat (first | (with_reducible first | exact HB.out | apply below_alloc | apply pw_below_drewN | apply below_drew1 | refine below_set ?_ GE112.out | refine below_set ?_ GE117.out) | exact HB.out)) hb); clear BK112; clear BK117; clear HB; have BK112 := n0_; have BK117 := n1_; have HB := n2_; clear n0_ n1_ n2_; (try clear hb); (try clear hb2); (try clear hk); (try clear hi); have hcz21_0 : w20.cell? ⟨gb112, 0, none⟩ = some (.int .i64 0) := (blk_cell BK112.out 0).trans rfl; have hcz21_1 : w20.cell? ⟨gb112, 1, none⟩ = some (.int .u32 0) := (blk_cell BK112.out 1).trans rfl; have hcz21_2 : w20.cell? ⟨gb112, 2, none⟩ = some (.int .u32 0) := (blk_cell BK112.out 2).trans rfl; have hcz21_3 : w20.cell? ⟨gb112, 3, none⟩ = some (.int .u32 0) := (blk_cell BK112.out 3).trans rfl; have hcz21_4 : w20.cell? ⟨gb112, 4, none⟩ = some (.int .u32 2) := (blk_cell BK112.out 4).trans rfl; have hcz21_5 : w20.cell? ⟨gb112, 5, none⟩ = some (.int .u32 1) := (blk_cell BK112.out 5).trans rfl; have hcz21_6 : w20.cell? ⟨gb112, 6, none⟩ = some (.int .u32 4) := (blk_cell BK112.out 6).trans rfl; have hfz21_0 := blk_frozen BK112.out 0; have hfz21_1 := blk_frozen BK112.out 1; have hfz21_2 := blk_frozen BK112.out 2; have hfz21_3 := blk_frozen BK112.out 3; have hfz21_4 := blk_frozen BK112.out 4; have hfz21_5 := blk_frozen BK112.out 5; have hfz21_6 := blk_frozen BK112.out 6) | (go_at_call 11; (with_reducible refine (layout_Lengths.calls 0 0 0 0 2 1 4 8 t120 t121 t122 t123 t124 t125 t126 _ A9.out).mono ?_); rintro e w22 ⟨rfl, hb⟩; have n0_ := Aside0.mk (blk_below (g := gb112) (o := .cells #[.int .i64 0, .int .u32 0, .int .u32 0, .int .u32 0, .int .u32 2, .int .u32 1, .int .u32 4] 24 (0, 0)) (by (with_reducible repeat (first | refine blk_drewN ?_ _ | refine blk_drew ?_ | refine blk_alloc ?_ _)); exact BK112.out) hb); have n1_ := Aside0.mk (blk_below (g := gb117) (o := .cells #[.int .i64 0, .int .u32 4294967295, .int .u32 4294967295, .int .u32 4294967295, .int .u32 4294967295, .int .u32 4294967295, .int .u32 4294967295] 24 (0, 0)) (by (with_reducible repeat (first | refine blk_drewN ?_ _ | refine blk_drew ?_ | refine blk_alloc ?_ _)); exact BK117.out) hb); have n2_ := Aside0.mk (below_step (by repeat (first | (with_reducible first | exact HB.out | apply below_alloc | apply pw_below_drewN | apply below_drew1 | refine below_set ?_ GE112.out | refine below_set ?_ GE117.out) | exact HB.out)) hb); clear BK112; clear BK117; clear HB; have BK112 := n0_; have BK117 := n1_; have HB := n2_; clear n0_ n1_ n2_; (try clear hb); (try clear hb2); (try clear hk); (try clear hi); have hcz23_0 : w22.cell? ⟨gb112, 0, none⟩ = some (.int .i64 0) := (blk_cell BK112.out 0).trans rfl; have hcz23_1 : w22.cell? ⟨gb112, 1, none⟩ = some (.int .u32 0) := (blk_cell BK112.out 1).trans rfl; have hcz23_2 : w22.cell? ⟨gb112, 2, none⟩ = some (.int .u32 0) := (blk_cell BK112.out 2).trans rfl; have hcz23_3 : w22.cell? ⟨gb112, 3, none⟩ = some (.int .u32 0) := (blk_cell BK112.out 3).trans rfl; have hcz23_4 : w22.cell? ⟨gb112, 4, none⟩ = some (.int .u32 2) := (blk_cell BK112.out 4).trans rfl; have hcz23_5 : w22.cell? ⟨gb112, 5, none⟩ = some (.int .u32 1) := (blk_cell BK112.out 5).trans rfl; have hcz23_6 : w22.cell? ⟨gb112, 6, none⟩ = some (.int .u32 4) := (blk_cell BK112.out 6).trans rfl; have hfz23_0 := blk_frozen BK112.out 0; have hfz23_1 := blk_frozen BK112.out 1; have hfz23_2 := blk_frozen BK112.out 2; have hfz23_3 := blk_frozen BK112.out 3; have hfz23_4 := blk_frozen BK112.out 4; have hfz23_5 := blk_frozen BK112.out 5; have hfz23_6 := blk_frozen BK112.out 6) | (go_at_call 13; (with_reducible refine (layout_Offsets.calls 0 0 0 0 2 1 4 4 t127 t128 t129 t130 t131 t132 t133 t134 _ A11.out).mono ?_); rintro e w24 ⟨rfl, hb⟩; have n0_ := Aside0.mk (blk_below (g := gb112) (o := .cells #[.int .i64 0, .int .u32 0, .int .u32 0, .int .u32 0, .int .u32 2, .int .u32 1, .int .u32 4] 24 (0, 0)) (by (with_reducible repeat (first | refine blk_drewN ?_ _ | refine blk_drew ?_ | refine blk_alloc ?_ _)); exact BK112.out) hb); have n1_ := Aside0.mk (blk_below (g := gb117) (o := .cells #[.int .i64 0, .int .u32 4294967295, .int .u32 4294967295, .int .u32 4294967295, .int .u32 4294967295, .int .u32 4294967295, .int .u32 4294967295] 24 (0, 0)) (by (with_reducible repeat (first | refine blk_drewN ?_ _ | refine blk_drew ?_ | refine blk_alloc ?_ _)); exact BK117.out) hb); have n2_ := Aside0.mk (below_step (by repeat (first | (with_reducible first | exact HB.out | apply below_alloc | apply pw_below_drewN | apply below_drew1 | refine below_set ?_ GE112.out | refine below_set ?_ GE117.out) | exact HB.out)) hb); clear BK112; clear BK117; clear HB; have BK112 := n0_; have BK117 := n1_; have HB := n2_; clear n0_ n1_ n2_; (try clear hb); (try clear hb2); (try clear hk); (try clear hi)))
              go_ret
              exact ⟨by first | rfl | (simp [errW_none, errW_some] <;> rfl) | (simp [*, errW_none, errW_some] <;> rfl), by repeat (first | (with_reducible first | exact HB.out | apply below_alloc | apply pw_below_drewN | apply below_drew1 | refine below_set ?_ GE112.out | refine below_set ?_ GE117.out) | exact HB.out)⟩
            · rw [if_neg c10] at H
              exact absurd H (by simp)
          · replace c8 := Bool.eq_false_iff.mpr c8
            subst c8
            have H1 : (none) = some r := by rw [if_neg (show ¬ (false = true) by decide)] at H; exact H
            clear H
            have H := H1
            clear H1
            exact absurd H (by simp)
        · rw [if_neg c7] at H
          exact absurd H (by simp)
    · replace c5 := Bool.eq_false_iff.mpr c5
      subst c5
      have H1 : (none) = some r := by rw [if_neg (show ¬ (false = true) by decide)] at H; exact H
      clear H
      have H := H1
      clear H1
      exact absurd H (by simp)
  · rw [if_neg c4] at H
    exact absurd H (by simp)

/-! ### zoneinforef14_Size: function 8 -/
def zoneinforef14_Size.f (a0 : Bool) : Option (Int) := if a0 = true then (some 8) else (some 4)
set_option maxHeartbeats 8000000 in
set_option maxRecDepth 100000 in
theorem zoneinforef14_Size.calls (a0 : Bool) (r : Int) (w : World) (h : zoneinforef14_Size.f a0 = some r) :
    Calls Try.prog 8 #[.bool a0] w fun e w' => e = .returned (.int .i64 r) ∧ Drawn0 w w' := by
  have H : (if a0 = true then (some 8) else (some 4)) = some r := h
  clear h
  by_cases c2 : a0 = true
  · subst c2
    have H1 : (some 8) = some r := by rw [if_pos rfl] at H; exact H
    clear H
    have H := H1
    clear H1
    obtain rfl := Option.some.inj H
    go_enter Try.func8, Try.ntmps8
    go_wp2
    go_ret
    exact ⟨by first | rfl | (simp; done) | (simp [*]; done), by repeat (first | exact Drawn0.refl _ | apply Drawn0.step)⟩
  · replace c2 := Bool.eq_false_iff.mpr c2
    subst c2
    have H1 : (some 4) = some r := by rw [if_neg (show ¬ (false = true) by decide)] at H; exact H
    clear H
    have H := H1
    clear H1
    obtain rfl := Option.some.inj H
    go_enter Try.func8, Try.ntmps8
    go_wp2
    go_ret
    exact ⟨by first | rfl | (simp; done) | (simp [*]; done), by repeat (first | exact Drawn0.refl _ | apply Drawn0.step)⟩

/-! ### zoneinforef14_Lengths: function 12 -/
def zoneinforef14_Lengths.f (a0_0 : Int) (a0_1 : Int) (a0_2 : Int) (a0_3 : Int) (a0_4 : Int) (a0_5 : Int) (a0_6 : Int) (a1 : Int) : Option (Int × Int × Int × Int × Int × Int × Int) := some (IntKind.u64.wrap ((IntKind.u64.wrap (a0_4)) * (IntKind.u64.wrap (a1))), IntKind.u64.wrap (a0_4), IntKind.u64.wrap (6 * (IntKind.u64.wrap (a0_5))), IntKind.u64.wrap (a0_6), IntKind.u64.wrap ((IntKind.u64.wrap (a0_3)) * (IntKind.u64.wrap ((IntKind.u64.wrap (a1)) + 4))), IntKind.u64.wrap (a0_2), IntKind.u64.wrap (a0_1))
set_option maxHeartbeats 8000000 in
set_option maxRecDepth 100000 in
theorem zoneinforef14_Lengths.calls (a0_0 : Int) (a0_1 : Int) (a0_2 : Int) (a0_3 : Int) (a0_4 : Int) (a0_5 : Int) (a0_6 : Int) (a1 : Int) (r1 : Int) (r2 : Int) (r3 : Int) (r4 : Int) (r5 : Int) (r6 : Int) (r7 : Int) (w : World) (h : zoneinforef14_Lengths.f a0_0 a0_1 a0_2 a0_3 a0_4 a0_5 a0_6 a1 = some (r1, r2, r3, r4, r5, r6, r7)) :
    Calls Try.prog 12 #[.agg #[.int .i64 a0_0, .int .u32 a0_1, .int .u32 a0_2, .int .u32 a0_3, .int .u32 a0_4, .int .u32 a0_5, .int .u32 a0_6], .int .i64 a1] w fun e w' => e = .returned (.agg #[.int .u64 r1, .int .u64 r2, .int .u64 r3, .int .u64 r4, .int .u64 r5, .int .u64 r6, .int .u64 r7]) ∧ Below w.heap.size w w' := by
  have hu24 := Try.underlying24
  have hu31 := Try.underlying31
  have HB := Aside0.mk (Below.refl w.heap.size w)
  have H : (some (IntKind.u64.wrap ((IntKind.u64.wrap (a0_4)) * (IntKind.u64.wrap (a1))), IntKind.u64.wrap (a0_4), IntKind.u64.wrap (6 * (IntKind.u64.wrap (a0_5))), IntKind.u64.wrap (a0_6), IntKind.u64.wrap ((IntKind.u64.wrap (a0_3)) * (IntKind.u64.wrap ((IntKind.u64.wrap (a1)) + 4))), IntKind.u64.wrap (a0_2), IntKind.u64.wrap (a0_1))) = some (r1, r2, r3, r4, r5, r6, r7) := h
  clear h
  simp only [Option.some.injEq, Prod.mk.injEq] at H
  obtain ⟨rfl, rfl, rfl, rfl, rfl, rfl, rfl⟩ := H
  go_enter Try.func12, Try.ntmps12
  go_wp2_with (first | ((with_reducible refine gate_dst (N := 2) rfl ?_); refine box_event ?hg (N := 2) ?hd (cs := #[.int .i64 a0_0, .int .u32 a0_1, .int .u32 a0_2, .int .u32 a0_3, .int .u32 a0_4, .int .u32 a0_5, .int .u32 a0_6]) (t := 24) ?hr ?_; (case hd => rfl); (case hg => rfl); (case hr => first | (go_simp; done) | (go_simp; rfl)); intro gb135 hg w3 hbox hb; have n0_ := Aside0.mk (below_step (by repeat (first | (with_reducible first | exact HB.out | apply below_alloc | apply pw_below_drewN | apply below_drew1) | exact HB.out)) hb); have n1_ := Aside0.mk (hbox); have n2_ := Aside0.mk ((by rw [hg]; exact (below_size (by repeat (first | (with_reducible first | exact HB.out | apply below_alloc | apply pw_below_drewN | apply below_drew1) | exact HB.out))) : w.heap.size ≤ gb135)); have n3_ := Aside0.mk ((by rw [hg]; exact (below_size (by repeat (first | (with_reducible first | exact HB.out | apply below_alloc | apply pw_below_drewN | apply below_drew1) | exact HB.out))) : w.heap.size ≤ gb135)); clear HB; have HB := n0_; have BK135 := n1_; have GW135 := n2_; have GE135 := n3_; clear n0_ n1_ n2_ n3_; clear hb hbox hg) | ((with_reducible refine gate_dst (N := 4) rfl ?_); refine box_event ?hg (N := 4) ?hd (cs := #[.int .u64 0, .int .u64 0, .int .u64 0, .int .u64 0, .int .u64 0, .int .u64 0, .int .u64 0]) (t := 31) ?hr ?_; (case hd => rfl); (case hg => rfl); (case hr => first | (go_simp; done) | (go_simp; rfl)); intro gb136 hg w4 hbox hb; have n0_ := Aside0.mk (blk_below (g := gb135) (o := .cells #[.int .i64 a0_0, .int .u32 a0_1, .int .u32 a0_2, .int .u32 a0_3, .int .u32 a0_4, .int .u32 a0_5, .int .u32 a0_6] 24 (0, 0)) (by (with_reducible repeat (first | refine blk_drewN ?_ _ | refine blk_drew ?_ | refine blk_alloc ?_ _)); exact BK135.out) hb); have n1_ := Aside0.mk (below_step (by repeat (first | (with_reducible first | exact HB.out | apply below_alloc | apply pw_below_drewN | apply below_drew1 | refine below_set ?_ GE135.out) | exact HB.out)) hb); have n2_ := Aside0.mk (hbox); have n3_ := Aside0.mk ((by rw [hg]; exact (below_size (by repeat (first | (with_reducible first | exact HB.out | apply below_alloc | apply pw_below_drewN | apply below_drew1 | refine below_set ?_ GE135.out) | exact HB.out))) : w.heap.size ≤ gb136)); have n4_ := Aside0.mk ((by rw [hg]; exact (below_size (by repeat (first | (with_reducible first | exact HB.out | apply below_alloc | apply pw_below_drewN | apply below_drew1 | refine below_set ?_ GE135.out) | exact HB.out))) : w.heap.size ≤ gb136)); have n5_ := Aside0.mk ((by rw [hg]; exact Nat.ne_of_lt (blk_lt (g := gb135) (o := .cells #[.int .i64 a0_0, .int .u32 a0_1, .int .u32 a0_2, .int .u32 a0_3, .int .u32 a0_4, .int .u32 a0_5, .int .u32 a0_6] 24 (0, 0)) (by (with_reducible repeat (first | refine blk_drewN ?_ _ | refine blk_drew ?_ | refine blk_alloc ?_ _)); exact BK135.out)) : gb135 ≠ gb136)); have n6_ := Aside0.mk ((by rw [hg]; exact Nat.ne_of_gt (blk_lt (g := gb135) (o := .cells #[.int .i64 a0_0, .int .u32 a0_1, .int .u32 a0_2, .int .u32 a0_3, .int .u32 a0_4, .int .u32 a0_5, .int .u32 a0_6] 24 (0, 0)) (by (with_reducible repeat (first | refine blk_drewN ?_ _ | refine blk_drew ?_ | refine blk_alloc ?_ _)); exact BK135.out)) : gb136 ≠ gb135)); clear BK135; clear HB; have BK135 := n0_; have HB := n1_; have BK136 := n2_; have GW136 := n3_; have GE136 := n4_; have NB135_136 := n5_; have NB136_135 := n6_; clear n0_ n1_ n2_ n3_ n4_ n5_ n6_; clear hb hbox hg; have hnb5 := NB135_136.out; have hnc5 := NB136_135.out; have hcz6_0 : w4.cell? ⟨gb135, 0, none⟩ = some (.int .i64 a0_0) := (blk_cell BK135.out 0).trans rfl; have hcz6_1 : w4.cell? ⟨gb135, 1, none⟩ = some (.int .u32 a0_1) := (blk_cell BK135.out 1).trans rfl; have hcz6_2 : w4.cell? ⟨gb135, 2, none⟩ = some (.int .u32 a0_2) := (blk_cell BK135.out 2).trans rfl; have hcz6_3 : w4.cell? ⟨gb135, 3, none⟩ = some (.int .u32 a0_3) := (blk_cell BK135.out 3).trans rfl; have hcz6_4 : w4.cell? ⟨gb135, 4, none⟩ = some (.int .u32 a0_4) := (blk_cell BK135.out 4).trans rfl; have hcz6_5 : w4.cell? ⟨gb135, 5, none⟩ = some (.int .u32 a0_5) := (blk_cell BK135.out 5).trans rfl; have hcz6_6 : w4.cell? ⟨gb135, 6, none⟩ = some (.int .u32 a0_6) := (blk_cell BK135.out 6).trans rfl; have hfz6_0 := blk_frozen BK135.out 0; have hfz6_1 := blk_frozen BK135.out 1; have hfz6_2 := blk_frozen BK135.out 2; have hfz6_3 := blk_frozen BK135.out 3; have hfz6_4 := blk_frozen BK135.out 4; have hfz6_5 := blk_frozen BK135.out 5; have hfz6_6 := blk_frozen BK135.out 6; have hcz7_0 : w4.cell? ⟨gb136, 0, none⟩ = some (.int .u64 0) := (blk_cell BK136.out 0).trans rfl; have hcz7_1 : w4.cell? ⟨gb136, 1, none⟩ = some (.int .u64 0) := (blk_cell BK136.out 1).trans rfl; have hcz7_2 : w4.cell? ⟨gb136, 2, none⟩ = some (.int .u64 0) := (blk_cell BK136.out 2).trans rfl; have hcz7_3 : w4.cell? ⟨gb136, 3, none⟩ = some (.int .u64 0) := (blk_cell BK136.out 3).trans rfl; have hcz7_4 : w4.cell? ⟨gb136, 4, none⟩ = some (.int .u64 0) := (blk_cell BK136.out 4).trans rfl; have hcz7_5 : w4.cell? ⟨gb136, 5, none⟩ = some (.int .u64 0) := (blk_cell BK136.out 5).trans rfl; have hcz7_6 : w4.cell? ⟨gb136, 6, none⟩ = some (.int .u64 0) := (blk_cell BK136.out 6).trans rfl; have hfz7_0 := blk_frozen BK136.out 0; have hfz7_1 := blk_frozen BK136.out 1; have hfz7_2 := blk_frozen BK136.out 2; have hfz7_3 := blk_frozen BK136.out 3; have hfz7_4 := blk_frozen BK136.out 4; have hfz7_5 := blk_frozen BK136.out 5; have hfz7_6 := blk_frozen BK136.out 6))
  refine bodyPost_ret (results_cell_row rfl _ _ gb136 31 #[.int .u64 (IntKind.u64.wrap ((IntKind.u64.wrap (a0_4)) * (IntKind.u64.wrap (a1)))), .int .u64 (IntKind.u64.wrap (a0_4)), .int .u64 (IntKind.u64.wrap (6 * (IntKind.u64.wrap (a0_5)))), .int .u64 (IntKind.u64.wrap (a0_6)), .int .u64 (IntKind.u64.wrap ((IntKind.u64.wrap (a0_3)) * (IntKind.u64.wrap ((IntKind.u64.wrap (a1)) + 4)))), .int .u64 (IntKind.u64.wrap (a0_2)), .int .u64 (IntKind.u64.wrap (a0_1))] (0, 0) _ rfl (by (with_reducible repeat (first | refine blk_drewN ?_ _ | refine blk_drew ?_ | refine blk_alloc ?_ _)); refine blk_put (cs := #[.int .u64 (IntKind.u64.wrap ((IntKind.u64.wrap (a0_4)) * (IntKind.u64.wrap (a1)))), .int .u64 (IntKind.u64.wrap (a0_4)), .int .u64 (IntKind.u64.wrap (6 * (IntKind.u64.wrap (a0_5)))), .int .u64 (IntKind.u64.wrap (a0_6)), .int .u64 (IntKind.u64.wrap ((IntKind.u64.wrap (a0_3)) * (IntKind.u64.wrap ((IntKind.u64.wrap (a1)) + 4)))), .int .u64 (IntKind.u64.wrap (a0_2)), .int .u64 0]) ?_ 6 _ rfl; (with_reducible repeat (first | refine blk_drewN ?_ _ | refine blk_drew ?_ | refine blk_alloc ?_ _)); refine blk_put (cs := #[.int .u64 (IntKind.u64.wrap ((IntKind.u64.wrap (a0_4)) * (IntKind.u64.wrap (a1)))), .int .u64 (IntKind.u64.wrap (a0_4)), .int .u64 (IntKind.u64.wrap (6 * (IntKind.u64.wrap (a0_5)))), .int .u64 (IntKind.u64.wrap (a0_6)), .int .u64 (IntKind.u64.wrap ((IntKind.u64.wrap (a0_3)) * (IntKind.u64.wrap ((IntKind.u64.wrap (a1)) + 4)))), .int .u64 0, .int .u64 0]) ?_ 5 _ rfl; (with_reducible repeat (first | refine blk_drewN ?_ _ | refine blk_drew ?_ | refine blk_alloc ?_ _)); refine blk_put (cs := #[.int .u64 (IntKind.u64.wrap ((IntKind.u64.wrap (a0_4)) * (IntKind.u64.wrap (a1)))), .int .u64 (IntKind.u64.wrap (a0_4)), .int .u64 (IntKind.u64.wrap (6 * (IntKind.u64.wrap (a0_5)))), .int .u64 (IntKind.u64.wrap (a0_6)), .int .u64 0, .int .u64 0, .int .u64 0]) ?_ 4 _ rfl; (with_reducible repeat (first | refine blk_drewN ?_ _ | refine blk_drew ?_ | refine blk_alloc ?_ _)); refine blk_put (cs := #[.int .u64 (IntKind.u64.wrap ((IntKind.u64.wrap (a0_4)) * (IntKind.u64.wrap (a1)))), .int .u64 (IntKind.u64.wrap (a0_4)), .int .u64 (IntKind.u64.wrap (6 * (IntKind.u64.wrap (a0_5)))), .int .u64 0, .int .u64 0, .int .u64 0, .int .u64 0]) ?_ 3 _ rfl; (with_reducible repeat (first | refine blk_drewN ?_ _ | refine blk_drew ?_ | refine blk_alloc ?_ _)); refine blk_put (cs := #[.int .u64 (IntKind.u64.wrap ((IntKind.u64.wrap (a0_4)) * (IntKind.u64.wrap (a1)))), .int .u64 (IntKind.u64.wrap (a0_4)), .int .u64 0, .int .u64 0, .int .u64 0, .int .u64 0, .int .u64 0]) ?_ 2 _ rfl; (with_reducible repeat (first | refine blk_drewN ?_ _ | refine blk_drew ?_ | refine blk_alloc ?_ _)); refine blk_put (cs := #[.int .u64 (IntKind.u64.wrap ((IntKind.u64.wrap (a0_4)) * (IntKind.u64.wrap (a1)))), .int .u64 0, .int .u64 0, .int .u64 0, .int .u64 0, .int .u64 0, .int .u64 0]) ?_ 1 _ rfl; (with_reducible repeat (first | refine blk_drewN ?_ _ | refine blk_drew ?_ | refine blk_alloc ?_ _)); refine blk_put (cs := #[.int .u64 0, .int .u64 0, .int .u64 0, .int .u64 0, .int .u64 0, .int .u64 0, .int .u64 0]) ?_ 0 _ rfl; (with_reducible repeat (first | refine blk_drewN ?_ _ | refine blk_drew ?_ | refine blk_alloc ?_ _)); exact BK136.out) Try.underlying31 rfl (by kernel_rfl)) rfl ?_
  exact ⟨by first | rfl | (simp [errW_none, errW_some] <;> rfl) | (simp [*, errW_none, errW_some] <;> rfl), by repeat (first | (with_reducible first | exact HB.out | apply below_alloc | apply pw_below_drewN | apply below_drew1 | refine below_set ?_ GE135.out | refine below_set ?_ GE136.out) | exact HB.out)⟩

/-! ### zoneinforef14_Sum: function 10 -/
def zoneinforef14_Sum.f (a0_0 : Int) (a0_1 : Int) (a0_2 : Int) (a0_3 : Int) (a0_4 : Int) (a0_5 : Int) (a0_6 : Int) (a1 : Int) : Option Int :=
  (zoneinforef14_Lengths.f a0_0 a0_1 a0_2 a0_3 a0_4 a0_5 a0_6 a1).bind fun b => some (sumU (pick7 b.1 b.2.1 b.2.2.1 b.2.2.2.1 b.2.2.2.2.1 b.2.2.2.2.2.1 b.2.2.2.2.2.2) 7)
set_option maxHeartbeats 8000000 in
set_option maxRecDepth 100000 in
theorem zoneinforef14_Sum.calls (a0_0 : Int) (a0_1 : Int) (a0_2 : Int) (a0_3 : Int) (a0_4 : Int) (a0_5 : Int) (a0_6 : Int) (a1 : Int) (r : Int) (w : World) (h : zoneinforef14_Sum.f a0_0 a0_1 a0_2 a0_3 a0_4 a0_5 a0_6 a1 = some r) :
    Calls Try.prog 10 #[.agg #[.int .i64 a0_0, .int .u32 a0_1, .int .u32 a0_2, .int .u32 a0_3, .int .u32 a0_4, .int .u32 a0_5, .int .u32 a0_6], .int .i64 a1] w fun e w' => e = .returned (.int .u64 r) ∧ Below w.heap.size w w' := by
  have HB := Aside0.mk (Below.refl w.heap.size w)
  have H := Option.bind_eq_some_iff.mp h
  clear h
  obtain ⟨⟨x0, x1, x2, x3, x4, x5, x6⟩, h1, h2⟩ := H
  have H1 := Aside0.mk h1
  have H2 := Aside0.mk (Option.some.inj h2)
  clear h1 h2
  go_enter Try.func10, Try.ntmps10
  go_wp2_with (first
    | ((with_reducible refine gate_dst (N := 2) rfl ?_); refine box_event ?hg (N := 2) ?hd (cs := #[.int .i64 a0_0, .int .u32 a0_1, .int .u32 a0_2, .int .u32 a0_3, .int .u32 a0_4, .int .u32 a0_5, .int .u32 a0_6]) (t := 24) ?hr ?_; (case hd => rfl); (case hg => rfl); (case hr => first | (go_simp; done) | (go_simp; rfl)); intro g2 hg2 w1 hk2 hb1; have n1 := Aside0.mk (below_step HB.out hb1); clear HB; have HB := n1; clear n1; have K2 := Aside0.mk hk2; clear hk2 hb1 hg2)
    | ((with_reducible refine gate_dst (N := 8) rfl ?_); refine wpList_load_row rfl 24 _ rfl g2 rfl 24 _ (0, 0) _ K2.out Try.underlying24 rfl (by kernel_rfl) ?_)
    | (go_at_call 12; (with_reducible refine (zoneinforef14_Lengths.calls a0_0 a0_1 a0_2 a0_3 a0_4 a0_5 a0_6 a1 x0 x1 x2 x3 x4 x5 x6 _ H1.out).mono ?_); rintro e w2 ⟨rfl, hb⟩; have n1 := Aside0.mk (below_step HB.out hb); clear HB; have HB := n1; clear n1 K2 hb; rw [row7])
    | ((with_reducible refine gate_dst (N := 6) rfl ?_); refine box_event ?hg (N := 6) ?hd (cs := rowU (fun _ => 0) 7) (t := 31) ?hr ?_; (case hd => rfl); (case hg => rfl); (case hr => first | (go_simp; done) | (go_simp; rfl)); intro g6 hg6 w3 hk6 hb1; have n2 := Aside0.mk (Nat.le_trans HB.out.size (Nat.le_of_eq hg6.symm)); have n1 := Aside0.mk (below_step HB.out hb1); clear HB; have HB := n1; have GE6 := n2; clear n1 n2; have K6 := Aside0.mk hk6; clear hk6 hb1 hg6)
    | (refine row_store rfl 31 6 _ rfl rfl g6 rfl rfl K6.out (by kernel_rfl) rfl (rowU_one _ _) ?_; intro w4 hk _ hb _; have n1 := Aside0.mk (hb _ _ GE6.out HB.out); have n2 := Aside0.mk hk; clear HB K6 hb hk; have HB := n1; have K6 := n2; clear n1 n2))
  go_loop [5, 7] (fun s i => ∃ k : Nat, k ≤ 7 ∧ i = .int .i64 (k : Int) ∧ s = .int .u64 (sumU (pick7 x0 x1 x2 x3 x4 x5 x6) k)) (fun _ i => 7 - (intOf i).toNat)
  case atStart => exact ⟨0, by omega, rfl, rfl⟩
  case round =>
    obtain ⟨k, hk, rfl, rfl⟩ := hrel
    by_cases hlt : k < 7
    · have hc : w4.cell? ⟨g6, k, none⟩ = some (.int .u64 (pick7 x0 x1 x2 x3 x4 x5 x6 k)) := (blk_cell K6.out k).trans (rowU_get _ 7 k hlt)
      have c1 : decide ((k : Int) < 7) = true := decide_eq_true (by omega)
      go_wp2
      go_round
      case rel => exact ⟨k + 1, by omega, by go_num, rfl⟩
      case measure => simp [intOf]; omega
    · have c1 : decide ((k : Int) < 7) = false := decide_eq_false (by omega)
      obtain rfl : k = 7 := by omega
      go_wp2
      go_ret
      exact ⟨by simp [H2.out], HB.out⟩

end Go.Proofs.Ytnhlnbpkpalgdaa.G
