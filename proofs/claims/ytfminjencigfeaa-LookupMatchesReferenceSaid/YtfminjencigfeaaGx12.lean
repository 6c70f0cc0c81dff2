/- Written by a program of this session for this seat: contracts of the functions that its laws reach, or the row of a law over its plain part. -/
import Derived.Test.YtfminjencigfeaaGx0
import Derived.Test.YtfminjencigfeaaGx7
import Derived.Test.YtfminjencigfeaaGx11
namespace Go.Proofs.Ytfminjencigfeaa.G
open Go.RowKit Go.Proofs.YtfminjencigfeaaW.PrintWords Go.Proofs.YtfminjencigfeaaW.PrintLast Go.Proofs.YtfminjencigfeaaW.PrintMore
attribute [local go_sem] max2_int min2_int max_two min_two max_three min_three max_four min_four   -- for this text's walks alone
set_option linter.unusedVariables false
set_option linter.unusedSimpArgs false

/-! ### zoneinfolaw23_valid: function 9 -/
def zoneinfolaw23_valid.f (k : Nat) (l0_0 : List Int) (l0_1 : List Int) (l0_2 : List (S42)) (l0_3 : List Int) (l0_4 : List (S55)) (l0_5 : List Bool) (l0_6 : List Bool) : Option (Bool) := (zoneinforef19_Few.f l0_0 l0_1 l0_2 l0_3 l0_4 l0_5 l0_6).bind fun t206 => (if t206 = true then ((zoneinforef20_Block.f k l0_0 l0_1 l0_2 l0_3 l0_4 l0_5 l0_6 4 8).bind fun t207 => (some (t207 == 0))) else (some false))
theorem zoneinfolaw23_valid.mono : ∀ a0 a1 a2 a3 a4 a5 a6 k, LeO (zoneinfolaw23_valid.f k a0 a1 a2 a3 a4 a5 a6) (zoneinfolaw23_valid.f (k + 1) a0 a1 a2 a3 a4 a5 a6) := by
  intro a0 a1 a2 a3 a4 a5 a6 k
  unfold zoneinfolaw23_valid.f
  repeat' first
      | (with_reducible exact zoneinforef20_Block.mono _ _ _ _ _ _ _ _ _ _)
      | (with_reducible exact LeO.refl _)
      | (with_reducible exact LeO.none _)
      | (with_reducible refine LeO.ite ?_ ?_)
      | (with_reducible refine LeO.bind ?_ (fun _ => ?_))
      | exact zoneinforef20_Block.mono _ _ _ _ _ _ _ _ _ _
      | exact LeO.none _
      | refine LeO.ite ?_ ?_
      | refine LeO.bind ?_ (fun _ => ?_)
set_option maxHeartbeats 8000000 in
set_option maxRecDepth 100000 in
theorem zoneinfolaw23_valid.calls (k : Nat) (A0_0 : Option Addr) (c0_0 : Nat) (l0_0 : List Int) (A0_1 : Option Addr) (c0_1 : Nat) (l0_1 : List Int) (A0_2 : Option Addr) (c0_2 : Nat) (l0_2 : List (S42)) (A0_3 : Option Addr) (c0_3 : Nat) (l0_3 : List Int) (A0_4 : Option Addr) (c0_4 : Nat) (l0_4 : List (S55)) (A0_5 : Option Addr) (c0_5 : Nat) (l0_5 : List Bool) (A0_6 : Option Addr) (c0_6 : Nat) (l0_6 : List Bool) (r : Bool) (w : World) (hr0_0 : Kd.C (Kd.int .i64) w A0_0 l0_0.length l0_0) (hc0_0 : l0_0.length ≤ c0_0) (hr0_1 : Kd.C (Kd.int .u8) w A0_1 l0_1.length l0_1) (hc0_1 : l0_1.length ≤ c0_1) (hr0_2 : Kd.C k42 w A0_2 l0_2.length l0_2) (hc0_2 : l0_2.length ≤ c0_2) (hr0_3 : Kd.C (Kd.int .u8) w A0_3 l0_3.length l0_3) (hc0_3 : l0_3.length ≤ c0_3) (hr0_4 : Kd.C k55 w A0_4 l0_4.length l0_4) (hc0_4 : l0_4.length ≤ c0_4) (hr0_5 : Kd.C Kd.bool w A0_5 l0_5.length l0_5) (hc0_5 : l0_5.length ≤ c0_5) (hr0_6 : Kd.C Kd.bool w A0_6 l0_6.length l0_6) (hc0_6 : l0_6.length ≤ c0_6) (h : zoneinfolaw23_valid.f k l0_0 l0_1 l0_2 l0_3 l0_4 l0_5 l0_6 = some r) :
    Calls Try.prog 9 #[.agg #[.slice A0_0 l0_0.length c0_0, .slice A0_1 l0_1.length c0_1, .slice A0_2 l0_2.length c0_2, .slice A0_3 l0_3.length c0_3, .slice A0_4 l0_4.length c0_4, .slice A0_5 l0_5.length c0_5, .slice A0_6 l0_6.length c0_6]] w fun e w' => e = .returned (.bool r) ∧ Below w.heap.size w w' := by
  have hu28 := Try.underlying28; have HR0_0 := Aside0.mk hr0_0; have HC0_0 := Aside0.mk hc0_0; clear hr0_0 hc0_0; have HR0_1 := Aside0.mk hr0_1; have HC0_1 := Aside0.mk hc0_1; clear hr0_1 hc0_1; have HR0_2 := Aside0.mk hr0_2; have HC0_2 := Aside0.mk hc0_2; clear hr0_2 hc0_2; have HR0_3 := Aside0.mk hr0_3; have HC0_3 := Aside0.mk hc0_3; clear hr0_3 hc0_3; have HR0_4 := Aside0.mk hr0_4; have HC0_4 := Aside0.mk hc0_4; clear hr0_4 hc0_4; have HR0_5 := Aside0.mk hr0_5; have HC0_5 := Aside0.mk hc0_5; clear hr0_5 hc0_5; have HR0_6 := Aside0.mk hr0_6; have HC0_6 := Aside0.mk hc0_6; clear hr0_6 hc0_6; have HB := Aside0.mk (Below.refl w.heap.size w)
  have H : ((zoneinforef19_Few.f l0_0 l0_1 l0_2 l0_3 l0_4 l0_5 l0_6).bind fun t206 => (if t206 = true then ((zoneinforef20_Block.f k l0_0 l0_1 l0_2 l0_3 l0_4 l0_5 l0_6 4 8).bind fun t207 => (some (t207 == 0))) else (some false))) = some r := h
  clear h; replace H := Option.bind_eq_some_iff.mp H; obtain ⟨t206, A20, H⟩ := H
  replace H : (if t206 = true then ((zoneinforef20_Block.f k l0_0 l0_1 l0_2 l0_3 l0_4 l0_5 l0_6 4 8).bind fun t207 => (some (t207 == 0))) else (some false)) = some r := H
  have A2 := Aside0.mk A20; clear A20
  by_cases c3 : t206 = true
  · subst c3
    have H1 : ((zoneinforef20_Block.f k l0_0 l0_1 l0_2 l0_3 l0_4 l0_5 l0_6 4 8).bind fun t207 => (some (t207 == 0))) = some r := by rw [if_pos rfl] at H; exact H
    clear H; have H := H1; clear H1; replace H := Option.bind_eq_some_iff.mp H; obtain ⟨t207, A40, H⟩ := H
    replace H : (some (t207 == 0)) = some r := H
    have A4 := Aside0.mk A40; clear A40
    obtain rfl := Option.some.inj H
    go_enter Try.func9, Try.ntmps9
    go_wp2_with (first | ((with_reducible refine gate_dst (N := 1) rfl ?_); refine box_event ?hg (N := 1) ?hd (cs := #[.slice A0_0 l0_0.length c0_0, .slice A0_1 l0_1.length c0_1, .slice A0_2 l0_2.length c0_2, .slice A0_3 l0_3.length c0_3, .slice A0_4 l0_4.length c0_4, .slice A0_5 l0_5.length c0_5, .slice A0_6 l0_6.length c0_6]) (t := 28) ?hr ?_; (case hd => rfl); (case hg => rfl); (case hr => first | (go_simp; done) | (go_simp; rfl)); intro gb205 hg w5 hbox hb; have n0_ := Aside0.mk (below_step (by repeat (first | (with_reducible first | exact HB.out | apply below_alloc | apply pw_below_drewN | apply below_drew1) | exact HB.out)) hb); have n1_ := Aside0.mk (hbox); have n2_ := Aside0.mk ((by rw [hg]; exact (below_size (by repeat (first | (with_reducible first | exact HB.out | apply below_alloc | apply pw_below_drewN | apply below_drew1) | exact HB.out))) : w.heap.size ≤ gb205)); have n3_ := Aside0.mk ((by rw [hg]; exact (below_size (by repeat (first | (with_reducible first | exact HB.out | apply below_alloc | apply pw_below_drewN | apply below_drew1) | exact HB.out))) : w.heap.size ≤ gb205)); clear HB; have HB := n0_; have BK205 := n1_; have GW205 := n2_; have GE205 := n3_; clear n0_ n1_ n2_ n3_; clear hb hbox hg; have hcz6_0 : w5.cell? ⟨gb205, 0, none⟩ = some (.slice A0_0 l0_0.length c0_0) := (blk_cell BK205.out 0).trans rfl; have hcz6_1 : w5.cell? ⟨gb205, 1, none⟩ = some (.slice A0_1 l0_1.length c0_1) := (blk_cell BK205.out 1).trans rfl; have hcz6_2 : w5.cell? ⟨gb205, 2, none⟩ = some (.slice A0_2 l0_2.length c0_2) := (blk_cell BK205.out 2).trans rfl; have hcz6_3 : w5.cell? ⟨gb205, 3, none⟩ = some (.slice A0_3 l0_3.length c0_3) := (blk_cell BK205.out 3).trans rfl; have hcz6_4 : w5.cell? ⟨gb205, 4, none⟩ = some (.slice A0_4 l0_4.length c0_4) := (blk_cell BK205.out 4).trans rfl; have hcz6_5 : w5.cell? ⟨gb205, 5, none⟩ = some (.slice A0_5 l0_5.length c0_5) := (blk_cell BK205.out 5).trans rfl; have hcz6_6 : w5.cell? ⟨gb205, 6, none⟩ = some (.slice A0_6 l0_6.length c0_6) := (blk_cell BK205.out 6).trans rfl; have hfz6_0 := blk_frozen BK205.out 0; have hfz6_1 := blk_frozen BK205.out 1; have hfz6_2 := blk_frozen BK205.out 2; have hfz6_3 := blk_frozen BK205.out 3; have hfz6_4 := blk_frozen BK205.out 4; have hfz6_5 := blk_frozen BK205.out 5; have hfz6_6 := blk_frozen BK205.out 6) | (go_at_call 21; (with_reducible refine (zoneinforef19_Few.calls _ _ l0_0 _ _ l0_1 _ _ l0_2 _ _ l0_3 _ _ l0_4 _ _ l0_5 _ _ l0_6 true _ ?side1 ?side2 ?side3 ?side4 ?side5 ?side6 ?side7 ?side8 ?side9 ?side10 ?side11 ?side12 ?side13 ?side14 A2.out).mono ?_); (case side1 => repeat (first | exact (Kd.C_below HR0_0.out HB.out) | (with_reducible refine Kd.C_alloc ?_ _) | (with_reducible refine Kd.C_drewN ?_ _) | (with_reducible refine Kd.C_drew ?_))); (case side2 => exact HC0_0.out); (case side3 => repeat (first | exact (Kd.C_below HR0_1.out HB.out) | (with_reducible refine Kd.C_alloc ?_ _) | (with_reducible refine Kd.C_drewN ?_ _) | (with_reducible refine Kd.C_drew ?_))); (case side4 => exact HC0_1.out); (case side5 => repeat (first | exact (Kd.C_below HR0_2.out HB.out) | (with_reducible refine Kd.C_alloc ?_ _) | (with_reducible refine Kd.C_drewN ?_ _) | (with_reducible refine Kd.C_drew ?_))); (case side6 => exact HC0_2.out); (case side7 => repeat (first | exact (Kd.C_below HR0_3.out HB.out) | (with_reducible refine Kd.C_alloc ?_ _) | (with_reducible refine Kd.C_drewN ?_ _) | (with_reducible refine Kd.C_drew ?_))); (case side8 => exact HC0_3.out); (case side9 => repeat (first | exact (Kd.C_below HR0_4.out HB.out) | (with_reducible refine Kd.C_alloc ?_ _) | (with_reducible refine Kd.C_drewN ?_ _) | (with_reducible refine Kd.C_drew ?_))); (case side10 => exact HC0_4.out); (case side11 => repeat (first | exact (Kd.C_below HR0_5.out HB.out) | (with_reducible refine Kd.C_alloc ?_ _) | (with_reducible refine Kd.C_drewN ?_ _) | (with_reducible refine Kd.C_drew ?_))); (case side12 => exact HC0_5.out); (case side13 => repeat (first | exact (Kd.C_below HR0_6.out HB.out) | (with_reducible refine Kd.C_alloc ?_ _) | (with_reducible refine Kd.C_drewN ?_ _) | (with_reducible refine Kd.C_drew ?_))); (case side14 => exact HC0_6.out); rintro e w7 ⟨rfl, hb⟩; have n0_ := Aside0.mk (blk_below (g := gb205) (o := .cells #[.slice A0_0 l0_0.length c0_0, .slice A0_1 l0_1.length c0_1, .slice A0_2 l0_2.length c0_2, .slice A0_3 l0_3.length c0_3, .slice A0_4 l0_4.length c0_4, .slice A0_5 l0_5.length c0_5, .slice A0_6 l0_6.length c0_6] 28 (0, 0)) (by (with_reducible repeat (first | refine blk_drewN ?_ _ | refine blk_drew ?_ | refine blk_alloc ?_ _)); exact BK205.out) hb); have n1_ := Aside0.mk (below_step (by repeat (first | (with_reducible first | exact HB.out | apply below_alloc | apply pw_below_drewN | apply below_drew1 | refine below_set ?_ GE205.out) | exact HB.out)) hb); clear BK205; clear HB; have BK205 := n0_; have HB := n1_; clear n0_ n1_; (try clear hb); (try clear hb2); (try clear hk); (try clear hi); have hcz8_0 : w7.cell? ⟨gb205, 0, none⟩ = some (.slice A0_0 l0_0.length c0_0) := (blk_cell BK205.out 0).trans rfl; have hcz8_1 : w7.cell? ⟨gb205, 1, none⟩ = some (.slice A0_1 l0_1.length c0_1) := (blk_cell BK205.out 1).trans rfl; have hcz8_2 : w7.cell? ⟨gb205, 2, none⟩ = some (.slice A0_2 l0_2.length c0_2) := (blk_cell BK205.out 2).trans rfl; have hcz8_3 : w7.cell? ⟨gb205, 3, none⟩ = some (.slice A0_3 l0_3.length c0_3) := (blk_cell BK205.out 3).trans rfl; have hcz8_4 : w7.cell? ⟨gb205, 4, none⟩ = some (.slice A0_4 l0_4.length c0_4) := (blk_cell BK205.out 4).trans rfl; have hcz8_5 : w7.cell? ⟨gb205, 5, none⟩ = some (.slice A0_5 l0_5.length c0_5) := (blk_cell BK205.out 5).trans rfl; have hcz8_6 : w7.cell? ⟨gb205, 6, none⟩ = some (.slice A0_6 l0_6.length c0_6) := (blk_cell BK205.out 6).trans rfl; have hfz8_0 := blk_frozen BK205.out 0; have hfz8_1 := blk_frozen BK205.out 1; have hfz8_2 := blk_frozen BK205.out 2; have hfz8_3 := blk_frozen BK205.out 3; have hfz8_4 := blk_frozen BK205.out 4; have hfz8_5 := blk_frozen BK205.out 5; have hfz8_6 := blk_frozen BK205.out 6) | (go_at_call 22; (with_reducible refine (zoneinforef20_Block.calls k _ _ l0_0 _ _ l0_1 _ _ l0_2 _ _ l0_3 _ _ l0_4 _ _ l0_5 _ _ l0_6 4 8 t207 _ ?side1 ?side2 ?side3 ?side4 ?side5 ?side6 ?side7 ?side8 ?side9 ?side10 ?side11 ?side12 ?side13 ?side14 A4.out).mono ?_); (case side1 => repeat (first | exact (Kd.C_below HR0_0.out HB.out) | (with_reducible refine Kd.C_alloc ?_ _) | (with_reducible refine Kd.C_drewN ?_ _) | (with_reducible refine Kd.C_drew ?_))); (case side2 => exact HC0_0.out); (case side3 => repeat (first | exact (Kd.C_below HR0_1.out HB.out) | (with_reducible refine Kd.C_alloc ?_ _) | (with_reducible refine Kd.C_drewN ?_ _) | (with_reducible refine Kd.C_drew ?_))); (case side4 => exact HC0_1.out); (case side5 => repeat (first | exact (Kd.C_below HR0_2.out HB.out) | (with_reducible refine Kd.C_alloc ?_ _) | (with_reducible refine Kd.C_drewN ?_ _) | (with_reducible refine Kd.C_drew ?_))); (case side6 => exact HC0_2.out); (case side7 => repeat (first | exact (Kd.C_below HR0_3.out HB.out) | (with_reducible refine Kd.C_alloc ?_ _) | (with_reducible refine Kd.C_drewN ?_ _) | (with_reducible refine Kd.C_drew ?_))); (case side8 => exact HC0_3.out); (case side9 => repeat (first | exact (Kd.C_below HR0_4.out HB.out) | (with_reducible refine Kd.C_alloc ?_ _) | (with_reducible refine Kd.C_drewN ?_ _) | (with_reducible refine Kd.C_drew ?_))); (case side10 => exact HC0_4.out); (case side11 => repeat (first | exact (Kd.C_below HR0_5.out HB.out) | (with_reducible refine Kd.C_alloc ?_ _) | (with_reducible refine Kd.C_drewN ?_ _) | (with_reducible refine Kd.C_drew ?_))); (case side12 => exact HC0_5.out); (case side13 => repeat (first | exact (Kd.C_below HR0_6.out HB.out) | (with_reducible refine Kd.C_alloc ?_ _) | (with_reducible refine Kd.C_drewN ?_ _) | (with_reducible refine Kd.C_drew ?_))); (case side14 => exact HC0_6.out); rintro e w9 ⟨rfl, hb⟩; have n0_ := Aside0.mk (blk_below (g := gb205) (o := .cells #[.slice A0_0 l0_0.length c0_0, .slice A0_1 l0_1.length c0_1, .slice A0_2 l0_2.length c0_2, .slice A0_3 l0_3.length c0_3, .slice A0_4 l0_4.length c0_4, .slice A0_5 l0_5.length c0_5, .slice A0_6 l0_6.length c0_6] 28 (0, 0)) (by (with_reducible repeat (first | refine blk_drewN ?_ _ | refine blk_drew ?_ | refine blk_alloc ?_ _)); exact BK205.out) hb); have n1_ := Aside0.mk (below_step (by repeat (first | (with_reducible first | exact HB.out | apply below_alloc | apply pw_below_drewN | apply below_drew1 | refine below_set ?_ GE205.out) | exact HB.out)) hb); clear BK205; clear HB; have BK205 := n0_; have HB := n1_; clear n0_ n1_; (try clear hb); (try clear hb2); (try clear hk); (try clear hi)))
    go_ret
    exact ⟨by first | rfl | (simp [errW_none, errW_some] <;> rfl) | (simp [*, errW_none, errW_some] <;> rfl), by repeat (first | (with_reducible first | exact HB.out | apply below_alloc | apply pw_below_drewN | apply below_drew1 | refine below_set ?_ GE205.out) | exact HB.out)⟩
  · replace c3 := Bool.eq_false_iff.mpr c3
    subst c3
    have H1 : (some false) = some r := by rw [if_neg (show ¬ (false = true) by decide)] at H; exact H
    clear H; have H := H1; clear H1
    obtain rfl := Option.some.inj H
    go_enter Try.func9, Try.ntmps9
    go_wp2_with (first | ((with_reducible refine gate_dst (N := 1) rfl ?_); refine box_event ?hg (N := 1) ?hd (cs := #[.slice A0_0 l0_0.length c0_0, .slice A0_1 l0_1.length c0_1, .slice A0_2 l0_2.length c0_2, .slice A0_3 l0_3.length c0_3, .slice A0_4 l0_4.length c0_4, .slice A0_5 l0_5.length c0_5, .slice A0_6 l0_6.length c0_6]) (t := 28) ?hr ?_; (case hd => rfl); (case hg => rfl); (case hr => first | (go_simp; done) | (go_simp; rfl)); intro gb205 hg w10 hbox hb; have n0_ := Aside0.mk (below_step (by repeat (first | (with_reducible first | exact HB.out | apply below_alloc | apply pw_below_drewN | apply below_drew1) | exact HB.out)) hb); have n1_ := Aside0.mk (hbox); have n2_ := Aside0.mk ((by rw [hg]; exact (below_size (by repeat (first | (with_reducible first | exact HB.out | apply below_alloc | apply pw_below_drewN | apply below_drew1) | exact HB.out))) : w.heap.size ≤ gb205)); have n3_ := Aside0.mk ((by rw [hg]; exact (below_size (by repeat (first | (with_reducible first | exact HB.out | apply below_alloc | apply pw_below_drewN | apply below_drew1) | exact HB.out))) : w.heap.size ≤ gb205)); clear HB; have HB := n0_; have BK205 := n1_; have GW205 := n2_; have GE205 := n3_; clear n0_ n1_ n2_ n3_; clear hb hbox hg; have hcz11_0 : w10.cell? ⟨gb205, 0, none⟩ = some (.slice A0_0 l0_0.length c0_0) := (blk_cell BK205.out 0).trans rfl; have hcz11_1 : w10.cell? ⟨gb205, 1, none⟩ = some (.slice A0_1 l0_1.length c0_1) := (blk_cell BK205.out 1).trans rfl; have hcz11_2 : w10.cell? ⟨gb205, 2, none⟩ = some (.slice A0_2 l0_2.length c0_2) := (blk_cell BK205.out 2).trans rfl; have hcz11_3 : w10.cell? ⟨gb205, 3, none⟩ = some (.slice A0_3 l0_3.length c0_3) := (blk_cell BK205.out 3).trans rfl; have hcz11_4 : w10.cell? ⟨gb205, 4, none⟩ = some (.slice A0_4 l0_4.length c0_4) := (blk_cell BK205.out 4).trans rfl; have hcz11_5 : w10.cell? ⟨gb205, 5, none⟩ = some (.slice A0_5 l0_5.length c0_5) := (blk_cell BK205.out 5).trans rfl; have hcz11_6 : w10.cell? ⟨gb205, 6, none⟩ = some (.slice A0_6 l0_6.length c0_6) := (blk_cell BK205.out 6).trans rfl; have hfz11_0 := blk_frozen BK205.out 0; have hfz11_1 := blk_frozen BK205.out 1; have hfz11_2 := blk_frozen BK205.out 2; have hfz11_3 := blk_frozen BK205.out 3; have hfz11_4 := blk_frozen BK205.out 4; have hfz11_5 := blk_frozen BK205.out 5; have hfz11_6 := blk_frozen BK205.out 6) | (go_at_call 21; (with_reducible refine (zoneinforef19_Few.calls _ _ l0_0 _ _ l0_1 _ _ l0_2 _ _ l0_3 _ _ l0_4 _ _ l0_5 _ _ l0_6 false _ ?side1 ?side2 ?side3 ?side4 ?side5 ?side6 ?side7 ?side8 ?side9 ?side10 ?side11 ?side12 ?side13 ?side14 A2.out).mono ?_); (case side1 => repeat (first | exact (Kd.C_below HR0_0.out HB.out) | (with_reducible refine Kd.C_alloc ?_ _) | (with_reducible refine Kd.C_drewN ?_ _) | (with_reducible refine Kd.C_drew ?_))); (case side2 => exact HC0_0.out); (case side3 => repeat (first | exact (Kd.C_below HR0_1.out HB.out) | (with_reducible refine Kd.C_alloc ?_ _) | (with_reducible refine Kd.C_drewN ?_ _) | (with_reducible refine Kd.C_drew ?_))); (case side4 => exact HC0_1.out); (case side5 => repeat (first | exact (Kd.C_below HR0_2.out HB.out) | (with_reducible refine Kd.C_alloc ?_ _) | (with_reducible refine Kd.C_drewN ?_ _) | (with_reducible refine Kd.C_drew ?_))); (case side6 => exact HC0_2.out); (case side7 => repeat (first | exact (Kd.C_below HR0_3.out HB.out) | (with_reducible refine Kd.C_alloc ?_ _) | (with_reducible refine Kd.C_drewN ?_ _) | (with_reducible refine Kd.C_drew ?_))); (case side8 => exact HC0_3.out); (case side9 => repeat (first | exact (Kd.C_below HR0_4.out HB.out) | (with_reducible refine Kd.C_alloc ?_ _) | (with_reducible refine Kd.C_drewN ?_ _) | (with_reducible refine Kd.C_drew ?_))); (case side10 => exact HC0_4.out); (case side11 => repeat (first | exact (Kd.C_below HR0_5.out HB.out) | (with_reducible refine Kd.C_alloc ?_ _) | (with_reducible refine Kd.C_drewN ?_ _) | (with_reducible refine Kd.C_drew ?_))); (case side12 => exact HC0_5.out); (case side13 => repeat (first | exact (Kd.C_below HR0_6.out HB.out) | (with_reducible refine Kd.C_alloc ?_ _) | (with_reducible refine Kd.C_drewN ?_ _) | (with_reducible refine Kd.C_drew ?_))); (case side14 => exact HC0_6.out); rintro e w12 ⟨rfl, hb⟩; have n0_ := Aside0.mk (blk_below (g := gb205) (o := .cells #[.slice A0_0 l0_0.length c0_0, .slice A0_1 l0_1.length c0_1, .slice A0_2 l0_2.length c0_2, .slice A0_3 l0_3.length c0_3, .slice A0_4 l0_4.length c0_4, .slice A0_5 l0_5.length c0_5, .slice A0_6 l0_6.length c0_6] 28 (0, 0)) (by (with_reducible repeat (first | refine blk_drewN ?_ _ | refine blk_drew ?_ | refine blk_alloc ?_ _)); exact BK205.out) hb); have n1_ := Aside0.mk (below_step (by repeat (first | (with_reducible first | exact HB.out | apply below_alloc | apply pw_below_drewN | apply below_drew1 | refine below_set ?_ GE205.out) | exact HB.out)) hb); clear BK205; clear HB; have BK205 := n0_; have HB := n1_; clear n0_ n1_; (try clear hb); (try clear hb2); (try clear hk); (try clear hi)))
    go_ret
    exact ⟨by first | rfl | (simp [errW_none, errW_some] <;> rfl) | (simp [*, errW_none, errW_some] <;> rfl), by repeat (first | (with_reducible first | exact HB.out | apply below_alloc | apply pw_below_drewN | apply below_drew1 | refine below_set ?_ GE205.out) | exact HB.out)⟩

/-! ### zoneinforef23_Rank: function 11 -/
def zoneinforef23_Rank.l0 : Nat → List Int → Int → Int → Int → Option (Int)
  | 0, _, _, _, _ => none
  | k + 1, x0, x1, x5, x6 => if x6 < (x0.length : Int) then (if 0 ≤ x6 then (if (rd x0 x6) ≤ x1 then (zoneinforef23_Rank.l0 k x0 x1 (wrap64 (x5 + 1)) (wrap64 (x6 + 1))) else (zoneinforef23_Rank.l0 k x0 x1 x5 (wrap64 (x6 + 1)))) else (none)) else (some x5)
def zoneinforef23_Rank.f (k : Nat) (l0 : List Int) (a1 : Int) : Option (Int) := zoneinforef23_Rank.l0 k l0 a1 0 0
theorem zoneinforef23_Rank.mono_l : ∀ k, (∀ y0 y1 y2 y3, LeO (zoneinforef23_Rank.l0 k y0 y1 y2 y3) (zoneinforef23_Rank.l0 (k + 1) y0 y1 y2 y3))
  | 0 => fun _ _ _ _ r h => by simp [zoneinforef23_Rank.l0] at h
  | k + 1 => by
    have ih0 := zoneinforef23_Rank.mono_l k
    · intro y0 y1 y2 y3
      unfold zoneinforef23_Rank.l0
      repeat' first
      | (with_reducible exact ih0 _ _ _ _)
      | (with_reducible exact LeO.refl _)
      | (with_reducible exact LeO.none _)
      | (with_reducible refine LeO.ite ?_ ?_)
      | (with_reducible refine LeO.bind ?_ (fun _ => ?_))
      | exact ih0 _ _ _ _
      | exact LeO.none _
      | refine LeO.ite ?_ ?_
      | refine LeO.bind ?_ (fun _ => ?_)
theorem zoneinforef23_Rank.mono : ∀ a0 a1 k, LeO (zoneinforef23_Rank.f k a0 a1) (zoneinforef23_Rank.f (k + 1) a0 a1) := by
  intro a0 a1 k; have ih0 := zoneinforef23_Rank.mono_l k
  unfold zoneinforef23_Rank.f
  repeat' first
      | (with_reducible exact ih0 _ _ _ _)
      | (with_reducible exact LeO.refl _)
      | (with_reducible exact LeO.none _)
      | (with_reducible refine LeO.ite ?_ ?_)
      | (with_reducible refine LeO.bind ?_ (fun _ => ?_))
      | exact ih0 _ _ _ _
      | exact LeO.none _
      | refine LeO.ite ?_ ?_
      | refine LeO.bind ?_ (fun _ => ?_)
set_option maxHeartbeats 8000000 in
set_option maxRecDepth 100000 in
theorem zoneinforef23_Rank.calls (k : Nat) (A0 : Option Addr) (c0 : Nat) (l0 : List Int) (a1 : Int) (r : Int) (w : World) (hr0 : Kd.C (Kd.int .i64) w A0 l0.length l0) (hc0 : l0.length ≤ c0) (h : zoneinforef23_Rank.f k l0 a1 = some r) :
    Calls Try.prog 11 #[.slice A0 l0.length c0, .int .i64 a1] w fun e w' => e = .returned (.int .i64 r) ∧ Drawn0 w w' := by
  have HR0 := Aside0.mk hr0; have HC0 := Aside0.mk hc0; clear hr0 hc0
  have H : (zoneinforef23_Rank.l0 k l0 a1 0 0) = some r := h
  clear h; have H' := Aside0.mk H; clear H
  go_enter Try.func11, Try.ntmps11
  go_wp2
  go_loopg [5, 6] k (fun kq v5 v6 w' => ∃ (x5_1 : Int) (x6_1 : Int), v5 = .int .i64 x5_1 ∧ v6 = .int .i64 x6_1 ∧ Aside0 (zoneinforef23_Rank.l0 kq l0 a1 x5_1 x6_1 = some r) ∧ Aside0 (kq ≤ k) ∧ Drawn0 w w')
  case atStart => exact ⟨(0), (0), (by first | rfl | (simp; done) | (simp [*]; done)), (by first | rfl | (simp; done) | (simp [*]; done)), H', ⟨Nat.le_refl _⟩, by repeat (first | exact Drawn0.refl _ | apply Drawn0.step)⟩
  case round =>
    clear H'; (try clear c1); (try clear p2); obtain ⟨x5_1, x6_1, rfl, rfl, HA, HK1, ⟨m1, rfl⟩⟩ := hrel
    cases gk with
    | zero => exact absurd HA.out (by simp [zoneinforef23_Rank.l0])
    | succ k1 =>
      have H := HA.out; clear HA
      simp only [zoneinforef23_Rank.l0] at H
      by_cases c3 : x6_1 < (l0.length : Int)
      · rw [if_pos c3] at H
        have c3b0 : decide (x6_1 < (l0.length : Int)) = true := decide_eq_true c3
        clear c3
        by_cases c4 : 0 ≤ x6_1
        · rw [if_pos c4] at H
          have c4b0 : decide (0 ≤ x6_1) = true := decide_eq_true c4
          clear c4
          by_cases c5 : (rd l0 x6_1) ≤ a1
          · rw [if_pos c5] at H
            have c5b0 : decide ((rd l0 x6_1) ≤ a1) = true := decide_eq_true c5
            clear c5; have H' := Aside0.mk H; clear H
            have p208 : 0 ≤ (x6_1 : Int) := of_decide_eq_true (by first | (with_reducible assumption) | assumption)
            have q208 : x6_1 < (l0.length : Int) := of_decide_eq_true (by first | (with_reducible assumption) | assumption)
            obtain ⟨ad208, e208, hx208_0⟩ := Kd.at_int HR0.out x6_1 p208 q208
            cases e208
            replace p208 := eq_true p208; replace q208 := eq_true q208; go_wp2
            go_roundg k1
            case measure => have := HK1.out; omega
            case rel => exact ⟨(wrap64 (x5_1 + 1)), (wrap64 (x6_1 + 1)), (by first | rfl | (simp; done) | (simp [*]; done)), (by first | rfl | (simp; done) | (simp [*]; done)), H', ⟨by have := HK1.out; omega⟩, by repeat (first | exact Drawn0.refl _ | apply Drawn0.step)⟩
          · rw [if_neg c5] at H
            have c5b0 : decide ((rd l0 x6_1) ≤ a1) = false := decide_eq_false c5
            clear c5; have H' := Aside0.mk H; clear H
            have p208 : 0 ≤ (x6_1 : Int) := of_decide_eq_true (by first | (with_reducible assumption) | assumption)
            have q208 : x6_1 < (l0.length : Int) := of_decide_eq_true (by first | (with_reducible assumption) | assumption)
            obtain ⟨ad208, e208, hx208_0⟩ := Kd.at_int HR0.out x6_1 p208 q208
            cases e208
            replace p208 := eq_true p208; replace q208 := eq_true q208; go_wp2
            go_roundg k1
            case measure => have := HK1.out; omega
            case rel => exact ⟨(x5_1), (wrap64 (x6_1 + 1)), (by first | rfl | (simp; done) | (simp [*]; done)), (by first | rfl | (simp; done) | (simp [*]; done)), H', ⟨by have := HK1.out; omega⟩, by repeat (first | exact Drawn0.refl _ | apply Drawn0.step)⟩
        · rw [if_neg c4] at H
          exact absurd H (by simp)
      · rw [if_neg c3] at H
        have c3b0 : decide (x6_1 < (l0.length : Int)) = false := decide_eq_false c3
        clear c3
        obtain rfl := Option.some.inj H
        go_wp2
        go_ret
        exact ⟨by first | rfl | (simp; done) | (simp [*]; done), by repeat (first | exact Drawn0.refl _ | apply Drawn0.step)⟩

/-! ### zoneinforef12_Name: function 26 -/
mutual
def zoneinforef12_Name.j0 : Nat → List Int → Int → Bool → Option (ByteArray × Bool)
  | 0, _, _, _ => none
  | k + 1, x0, x1, x15 => if x15 = true then (some ((⟨#[]⟩ : ByteArray), false)) else (zoneinforef12_Name.l0 k x0 (⟨#[]⟩ : ByteArray) x1)
def zoneinforef12_Name.l0 : Nat → List Int → ByteArray → Int → Option (ByteArray × Bool)
  | 0, _, _, _ => none
  | k + 1, x0, x6, x7 => if x7 < (x0.length : Int) then (if 0 ≤ x7 then (if (rd x0 x7) = 0 then (some (x6, true)) else ((some (([rd x0 x7] : List Int) : List Int)).bind fun y211 => (if x6.size + (strOfNums y211).size ≤ 9223372036854775807 then (zoneinforef12_Name.l0 k x0 (x6 ++ (strOfNums y211)) (wrap64 (x7 + 1))) else (none)))) else (none)) else (some (x6, true))
end
def zoneinforef12_Name.f (k : Nat) (l0 : List Int) (a1 : Int) : Option (ByteArray × Bool) := if a1 < 0 then (zoneinforef12_Name.j0 k l0 a1 true) else (zoneinforef12_Name.j0 k l0 a1 (decide (a1 ≥ (l0.length : Int))))
theorem zoneinforef12_Name.mono_l : ∀ k, (∀ y0 y1 y2, LeO (zoneinforef12_Name.j0 k y0 y1 y2) (zoneinforef12_Name.j0 (k + 1) y0 y1 y2)) ∧ (∀ y0 y1 y2, LeO (zoneinforef12_Name.l0 k y0 y1 y2) (zoneinforef12_Name.l0 (k + 1) y0 y1 y2))
  | 0 => ⟨fun _ _ _ r h => by simp [zoneinforef12_Name.j0] at h, fun _ _ _ r h => by simp [zoneinforef12_Name.l0] at h⟩
  | k + 1 => by
    obtain ⟨ih0, ih1⟩ := zoneinforef12_Name.mono_l k; refine ⟨?_, ?_⟩
    · intro y0 y1 y2
      unfold zoneinforef12_Name.j0
      repeat' first
      | (with_reducible exact ih0 _ _ _)
      | (with_reducible exact ih1 _ _ _)
      | (with_reducible exact LeO.refl _)
      | (with_reducible exact LeO.none _)
      | (with_reducible refine LeO.ite ?_ ?_)
      | (with_reducible refine LeO.bind ?_ (fun _ => ?_))
      | exact ih0 _ _ _
      | exact ih1 _ _ _
      | exact LeO.none _
      | refine LeO.ite ?_ ?_
      | refine LeO.bind ?_ (fun _ => ?_)
    · intro y0 y1 y2
      unfold zoneinforef12_Name.l0
      repeat' first
      | (with_reducible exact ih0 _ _ _)
      | (with_reducible exact ih1 _ _ _)
      | (with_reducible exact LeO.refl _)
      | (with_reducible exact LeO.none _)
      | (with_reducible refine LeO.ite ?_ ?_)
      | (with_reducible refine LeO.bind ?_ (fun _ => ?_))
      | exact ih0 _ _ _
      | exact ih1 _ _ _
      | exact LeO.none _
      | refine LeO.ite ?_ ?_
      | refine LeO.bind ?_ (fun _ => ?_)
theorem zoneinforef12_Name.mono : ∀ a0 a1 k, LeO (zoneinforef12_Name.f k a0 a1) (zoneinforef12_Name.f (k + 1) a0 a1) := by
  intro a0 a1 k; obtain ⟨ih0, ih1⟩ := zoneinforef12_Name.mono_l k
  unfold zoneinforef12_Name.f
  repeat' first
      | (with_reducible exact ih0 _ _ _)
      | (with_reducible exact ih1 _ _ _)
      | (with_reducible exact LeO.refl _)
      | (with_reducible exact LeO.none _)
      | (with_reducible refine LeO.ite ?_ ?_)
      | (with_reducible refine LeO.bind ?_ (fun _ => ?_))
      | exact ih0 _ _ _
      | exact ih1 _ _ _
      | exact LeO.none _
      | refine LeO.ite ?_ ?_
      | refine LeO.bind ?_ (fun _ => ?_)
set_option maxHeartbeats 8000000 in
set_option maxRecDepth 100000 in
theorem zoneinforef12_Name.calls (k : Nat) (A0 : Option Addr) (c0 : Nat) (l0 : List Int) (a1 : Int) (r1 : ByteArray) (r2 : Bool) (w : World) (hr0 : Kd.C (Kd.int .u8) w A0 l0.length l0) (hc0 : l0.length ≤ c0) (h : zoneinforef12_Name.f k l0 a1 = some (r1, r2)) :
    Calls Try.prog 26 #[.slice A0 l0.length c0, .int .i64 a1] w fun e w' => e = .returned (.tuple #[.string r1, .bool r2]) ∧ Below w.heap.size w w' := by
  have HR0 := Aside0.mk hr0; have HC0 := Aside0.mk hc0; clear hr0 hc0; have HB := Aside0.mk (Below.refl w.heap.size w)
  have H : (if a1 < 0 then (zoneinforef12_Name.j0 k l0 a1 true) else (zoneinforef12_Name.j0 k l0 a1 (decide (a1 ≥ (l0.length : Int))))) = some (r1, r2) := h
  clear h; have HC3 := Aside0.mk H; clear H
  go_enter Try.func26, Try.ntmps26
  go_upto_region 1 with (fail)
  go_cut [15] (fun v15 wc => ∃ (kq : Nat) (x15_2 : Bool), v15 = .bool x15_2 ∧ Aside0 (zoneinforef12_Name.j0 kq l0 a1 x15_2 = some (r1, r2)) ∧ Aside0 (kq ≤ k) ∧ Aside0 (Below w.heap.size w wc))
  case first =>
    have H := HC3.out; clear HC3
    by_cases c4 : a1 < 0
    · rw [if_pos c4] at H
      have c4b0 : decide (a1 < 0) = true := decide_eq_true c4
      clear c4; (first | rw [c4b0] | (simp only [i64_w, i32_w]; rw [c4b0]) | skip); have H' := Aside0.mk H; clear H; go_wp2
      go_meet
      case rel => exact ⟨_, (true), (by first | rfl | (simp; done) | (simp [*]; done)), H', ⟨by first | omega | exact Nat.le_refl _⟩, ⟨by repeat (first | (with_reducible first | exact HB.out | apply below_alloc | apply pw_below_drewN | apply below_drew1) | exact HB.out)⟩⟩
    · rw [if_neg c4] at H
      have c4b0 : decide (a1 < 0) = false := decide_eq_false c4
      clear c4; (first | rw [c4b0] | (simp only [i64_w, i32_w]; rw [c4b0]) | skip); have H' := Aside0.mk H; clear H; go_wp2
      go_meet
      case rel => exact ⟨_, (decide (a1 ≥ (l0.length : Int))), (by first | rfl | (simp; done) | (simp [*]; done)), H', ⟨by first | omega | exact Nat.le_refl _⟩, ⟨by repeat (first | (with_reducible first | exact HB.out | apply below_alloc | apply pw_below_drewN | apply below_drew1) | exact HB.out)⟩⟩
  case rest =>
    clear HC3; (try clear c2); (try clear p2); (try clear c4); (try clear c4b0); obtain ⟨kq, x15_2, rfl, HA, HJ2, HB⟩ := hcut
    cases kq with
    | zero => exact absurd HA.out (by simp [zoneinforef12_Name.j0])
    | succ kj2 =>
      have H := HA.out; clear HA
      simp only [zoneinforef12_Name.j0] at H
      by_cases c5 : x15_2 = true
      · subst c5
        have H1 : (some ((⟨#[]⟩ : ByteArray), false)) = some (r1, r2) := by rw [if_pos rfl] at H; exact H
        clear H; have H := H1; clear H1
        simp only [Option.some.injEq, Prod.mk.injEq] at H
        obtain ⟨rfl, rfl⟩ := H; go_wp2
        go_ret2
        exact ⟨by first | rfl | (simp [errW_none, errW_some] <;> rfl) | (simp [*, errW_none, errW_some] <;> rfl), by repeat (first | (with_reducible first | exact HB.out | apply below_alloc | apply pw_below_drewN | apply below_drew1) | exact HB.out)⟩
      · replace c5 := Bool.eq_false_iff.mpr c5
        subst c5
        have H1 : (zoneinforef12_Name.l0 kj2 l0 (⟨#[]⟩ : ByteArray) a1) = some (r1, r2) := by rw [if_neg (show ¬ (false = true) by decide)] at H; exact H
        clear H; have H := H1; clear H1; have H' := Aside0.mk H; clear H; go_wp2
        go_loopg [6, 7] kj2 (fun kq v6 v7 w' => ∃ (x6_2 : ByteArray) (x7_2 : Int), v6 = .string x6_2 ∧ v7 = .int .i64 x7_2 ∧ Aside0 (zoneinforef12_Name.l0 kq l0 x6_2 x7_2 = some (r1, r2)) ∧ Aside0 (kq ≤ kj2) ∧ Aside0 (Below w.heap.size w w'))
        case atStart => exact ⟨((⟨#[]⟩ : ByteArray)), (a1), (by first | rfl | (simp; done) | (simp [*]; done)), (by first | rfl | (simp; done) | (simp [*]; done)), H', ⟨Nat.le_refl _⟩, ⟨by repeat (first | (with_reducible first | exact HB.out | apply below_alloc | apply pw_below_drewN | apply below_drew1) | exact HB.out)⟩⟩
        case round =>
          clear H'; (try clear c2); (try clear p2); (try clear c4); (try clear c4b0); (try clear c5); (try clear p2); obtain ⟨x6_2, x7_2, rfl, rfl, HA, HK2, HB⟩ := hrel
          cases gk with
          | zero => exact absurd HA.out (by simp [zoneinforef12_Name.l0])
          | succ k2 =>
            have H := HA.out; clear HA
            simp only [zoneinforef12_Name.l0] at H
            by_cases c6 : x7_2 < (l0.length : Int)
            · rw [if_pos c6] at H
              have c6b0 : decide (x7_2 < (l0.length : Int)) = true := decide_eq_true c6
              clear c6
              by_cases c7 : 0 ≤ x7_2
              · rw [if_pos c7] at H
                have c7b0 : decide (0 ≤ x7_2) = true := decide_eq_true c7
                clear c7
                by_cases c8 : (rd l0 x7_2) = 0
                · rw [if_pos c8] at H
                  have c8b0 : ((rd l0 x7_2) == 0) = true := beq_iff_eq.mpr c8
                  have c8b1 : ((rd l0 x7_2) != 0) = false := bne_eq_false_iff_eq.mpr c8
                  clear c8
                  simp only [Option.some.injEq, Prod.mk.injEq] at H
                  obtain ⟨rfl, rfl⟩ := H
                  have p209 : 0 ≤ (x7_2 : Int) := of_decide_eq_true (by first | (with_reducible assumption) | assumption)
                  have q209 : x7_2 < (l0.length : Int) := of_decide_eq_true (by first | (with_reducible assumption) | assumption)
                  obtain ⟨ad209, e209, hx209_0⟩ := Kd.at_int HR0.out x7_2 p209 q209
                  cases e209
                  replace hx209_0 := (HB.out.cell (World.block_lt_of_cell? w _ hx209_0)).trans hx209_0; replace p209 := eq_true p209; replace q209 := eq_true q209; go_wp2
                  go_ret2
                  exact ⟨by first | rfl | (simp [errW_none, errW_some] <;> rfl) | (simp [*, errW_none, errW_some] <;> rfl), by repeat (first | (with_reducible first | exact HB.out | apply below_alloc | apply pw_below_drewN | apply below_drew1) | exact HB.out)⟩
                · rw [if_neg c8] at H
                  have c8b0 : ((rd l0 x7_2) == 0) = false := beq_eq_false_iff_ne.mpr c8
                  have c8b1 : ((rd l0 x7_2) != 0) = true := bne_iff_ne.mpr c8
                  obtain ⟨y211, hy211⟩ : ∃ y_ : List Int, y_ = (([rd l0 x7_2] : List Int)) := ⟨_, rfl⟩
                  replace H : (if x6_2.size + (strOfNums y211).size ≤ 9223372036854775807 then (zoneinforef12_Name.l0 k2 l0 (x6_2 ++ (strOfNums y211)) (wrap64 (x7_2 + 1))) else (none)) = some (r1, r2) := by first | (rw [hy211]; with_reducible exact H) | (have H2_ := (Option.bind_some _ _).symm.trans H; rw [hy211]; with_reducible exact H2_) | (have H2_ := (Option.bind_some _ _).symm.trans H; with_reducible exact H2_) | with_reducible exact H | (rw [hy211]; exact H) | exact H
                  have Ny211 := Aside0.mk hy211; clear hy211
                  by_cases c9 : x6_2.size + (strOfNums y211).size ≤ 9223372036854775807
                  · rw [if_pos c9] at H
                    have c9b0 := eq_true c9
                    have c9b1 : decide (x6_2.size + (strOfNums y211).size ≤ 9223372036854775807) = true := decide_eq_true c9
                    try have c9b2 : (9223372036854775807 < x6_2.size + (strOfNums y211).size) = False := eq_false (Nat.not_lt.2 c9)
                    have H' := Aside0.mk H; clear H
                    have p209 : 0 ≤ (x7_2 : Int) := of_decide_eq_true (by first | (with_reducible assumption) | assumption)
                    have q209 : x7_2 < (l0.length : Int) := of_decide_eq_true (by first | (with_reducible assumption) | assumption)
                    obtain ⟨ad209, e209, hx209_0⟩ := Kd.at_int HR0.out x7_2 p209 q209
                    cases e209
                    replace hx209_0 := (HB.out.cell (World.block_lt_of_cell? w _ hx209_0)).trans hx209_0; replace p209 := eq_true p209; replace q209 := eq_true q209
                    have p210 : 0 ≤ (x7_2 : Int) := of_decide_eq_true (by first | (with_reducible assumption) | assumption)
                    have q210 : x7_2 < (l0.length : Int) := of_decide_eq_true (by first | (with_reducible assumption) | assumption)
                    obtain ⟨ad210, e210, hx210_0⟩ := Kd.at_int HR0.out x7_2 p210 q210
                    obtain rfl : ad209 = ad210 := (by injection e210)
                    replace hx210_0 := (HB.out.cell (World.block_lt_of_cell? w _ hx210_0)).trans hx210_0; replace p210 := eq_true p210; replace q210 := eq_true q210
                    go_wp2_with (first | ((with_reducible refine gate_dst (N := 35) rfl ?_); (try (refine gate_guard (by rfl) ?_; dsimp only)); refine Kd.R_lit (Kd.int .u8) _ 5 ?hg (N := 35) ?hd (xs := ([rd l0 x7_2] : List Int)) (inner := [.int .u8 (rd l0 x7_2)]) (ok := fun _ => True) (okp := fun _ => True) ?hr ?hp (fun _ hk => hk) trivial (Below.refl _ _) (Nat.le_refl _) (by simp) ?_; (case hd => rfl); (case hg => rfl); (case hr => first | (go_simp; done) | (go_simp; rfl)); (case hp => exact (Reps.one (show Kd.M (Kd.int .u8) _ _ _ (rd l0 x7_2) [.int .u8 (rd l0 x7_2)] from rfl) (Reps.none _ _))); intro v212 w10 ho11 hb hg_ hnew_; clear hg_ hnew_; (first | rw [← Ny211.out] at ho11 | (simp only [Int.reduceToNat] at ho11; rw [← Ny211.out] at ho11)); have n0_ := Aside0.mk (Kd.R_lower ho11 (below_size (by repeat (first | (with_reducible first | exact HB.out | apply below_alloc | apply pw_below_drewN | apply below_drew1) | exact HB.out)))); have n1_ := Aside0.mk (below_step (by repeat (first | (with_reducible first | exact HB.out | apply below_alloc | apply pw_below_drewN | apply below_drew1) | exact HB.out)) hb); clear HB; have HO213 := n0_; have HB := n1_; clear n0_ n1_; clear hb ho11; have hcv12 := own_string (P := Try.prog) Try.underlying23 Try.underlying5 Try.underlying9 (Kd.own_of_R HO213.out)))
                    go_roundg k2
                    case measure => have := HJ2.out; have := HK2.out; omega
                    case rel => exact ⟨(x6_2 ++ (strOfNums y211)), (wrap64 (x7_2 + 1)), (by first | rfl | (simp; done) | (simp [*]; done)), (by first | rfl | (simp; done) | (simp [*]; done)), H', ⟨by have := HJ2.out; have := HK2.out; omega⟩, ⟨by repeat (first | (with_reducible first | exact HB.out | apply below_alloc | apply pw_below_drewN | apply below_drew1) | exact HB.out)⟩⟩
                  · rw [if_neg c9] at H
                    exact absurd H (by simp)
              · rw [if_neg c7] at H
                exact absurd H (by simp)
            · rw [if_neg c6] at H
              have c6b0 : decide (x7_2 < (l0.length : Int)) = false := decide_eq_false c6
              clear c6
              simp only [Option.some.injEq, Prod.mk.injEq] at H
              obtain ⟨rfl, rfl⟩ := H; go_wp2
              go_ret2
              exact ⟨by first | rfl | (simp [errW_none, errW_some] <;> rfl) | (simp [*, errW_none, errW_some] <;> rfl), by repeat (first | (with_reducible first | exact HB.out | apply below_alloc | apply pw_below_drewN | apply below_drew1) | exact HB.out)⟩

/-! ### zoneinforef20_TypeResult: function 20 -/
def zoneinforef20_TypeResult.f (k : Nat) (l0_0 : List Int) (l0_1 : List Int) (l0_2 : List (S42)) (l0_3 : List Int) (l0_4 : List (S55)) (l0_5 : List Bool) (l0_6 : List Bool) (a1 : Int) : Option (Bool × Int × Bool × ByteArray) := if 0 ≤ a1 then (if a1 < (l0_2.length : Int) then ((zoneinforef12_Name.f k l0_3 (wrap64 ((rd_T42 l0_2 a1).f2))).bind fun bt218 => (some (true, wrap64 ((rd_T42 l0_2 a1).f0), (rd_T42 l0_2 a1).f1, bt218.1))) else (none)) else (none)
theorem zoneinforef20_TypeResult.mono : ∀ a0 a1 a2 a3 a4 a5 a6 a7 k, LeO (zoneinforef20_TypeResult.f k a0 a1 a2 a3 a4 a5 a6 a7) (zoneinforef20_TypeResult.f (k + 1) a0 a1 a2 a3 a4 a5 a6 a7) := by
  intro a0 a1 a2 a3 a4 a5 a6 a7 k
  unfold zoneinforef20_TypeResult.f
  repeat' first
      | (with_reducible exact zoneinforef12_Name.mono _ _ _)
      | (with_reducible exact LeO.refl _)
      | (with_reducible exact LeO.none _)
      | (with_reducible refine LeO.ite ?_ ?_)
      | (with_reducible refine LeO.bind ?_ (fun _ => ?_))
      | exact zoneinforef12_Name.mono _ _ _
      | exact LeO.none _
      | refine LeO.ite ?_ ?_
      | refine LeO.bind ?_ (fun _ => ?_)
set_option maxHeartbeats 8000000 in
set_option maxRecDepth 100000 in
theorem zoneinforef20_TypeResult.calls (k : Nat) (A0_0 : Option Addr) (c0_0 : Nat) (l0_0 : List Int) (A0_1 : Option Addr) (c0_1 : Nat) (l0_1 : List Int) (A0_2 : Option Addr) (c0_2 : Nat) (l0_2 : List (S42)) (A0_3 : Option Addr) (c0_3 : Nat) (l0_3 : List Int) (A0_4 : Option Addr) (c0_4 : Nat) (l0_4 : List (S55)) (A0_5 : Option Addr) (c0_5 : Nat) (l0_5 : List Bool) (A0_6 : Option Addr) (c0_6 : Nat) (l0_6 : List Bool) (a1 : Int) (r1 : Bool) (r2 : Int) (r3 : Bool) (r4 : ByteArray) (w : World) (hr0_0 : Kd.C (Kd.int .i64) w A0_0 l0_0.length l0_0) (hc0_0 : l0_0.length ≤ c0_0) (hr0_1 : Kd.C (Kd.int .u8) w A0_1 l0_1.length l0_1) (hc0_1 : l0_1.length ≤ c0_1) (hr0_2 : Kd.C k42 w A0_2 l0_2.length l0_2) (hc0_2 : l0_2.length ≤ c0_2) (hr0_3 : Kd.C (Kd.int .u8) w A0_3 l0_3.length l0_3) (hc0_3 : l0_3.length ≤ c0_3) (hr0_4 : Kd.C k55 w A0_4 l0_4.length l0_4) (hc0_4 : l0_4.length ≤ c0_4) (hr0_5 : Kd.C Kd.bool w A0_5 l0_5.length l0_5) (hc0_5 : l0_5.length ≤ c0_5) (hr0_6 : Kd.C Kd.bool w A0_6 l0_6.length l0_6) (hc0_6 : l0_6.length ≤ c0_6) (h : zoneinforef20_TypeResult.f k l0_0 l0_1 l0_2 l0_3 l0_4 l0_5 l0_6 a1 = some (r1, r2, r3, r4)) :
    Calls Try.prog 20 #[.agg #[.slice A0_0 l0_0.length c0_0, .slice A0_1 l0_1.length c0_1, .slice A0_2 l0_2.length c0_2, .slice A0_3 l0_3.length c0_3, .slice A0_4 l0_4.length c0_4, .slice A0_5 l0_5.length c0_5, .slice A0_6 l0_6.length c0_6], .int .i64 a1] w fun e w' => e = .returned (.agg #[.bool r1, .int .i64 r2, .bool r3, .string r4]) ∧ Below w.heap.size w w' := by
  have hu28 := Try.underlying28; have hu33 := Try.underlying33; have hu42 := Try.underlying42; have HR0_0 := Aside0.mk hr0_0; have HC0_0 := Aside0.mk hc0_0; clear hr0_0 hc0_0; have HR0_1 := Aside0.mk hr0_1; have HC0_1 := Aside0.mk hc0_1; clear hr0_1 hc0_1; have HR0_2 := Aside0.mk hr0_2; have HC0_2 := Aside0.mk hc0_2; clear hr0_2 hc0_2; have HR0_3 := Aside0.mk hr0_3; have HC0_3 := Aside0.mk hc0_3; clear hr0_3 hc0_3; have HR0_4 := Aside0.mk hr0_4; have HC0_4 := Aside0.mk hc0_4; clear hr0_4 hc0_4; have HR0_5 := Aside0.mk hr0_5; have HC0_5 := Aside0.mk hc0_5; clear hr0_5 hc0_5; have HR0_6 := Aside0.mk hr0_6; have HC0_6 := Aside0.mk hc0_6; clear hr0_6 hc0_6; have HB := Aside0.mk (Below.refl w.heap.size w)
  have H : (if 0 ≤ a1 then (if a1 < (l0_2.length : Int) then ((zoneinforef12_Name.f k l0_3 (wrap64 ((rd_T42 l0_2 a1).f2))).bind fun bt218 => (some (true, wrap64 ((rd_T42 l0_2 a1).f0), (rd_T42 l0_2 a1).f1, bt218.1))) else (none)) else (none)) = some (r1, r2, r3, r4) := h
  clear h
  by_cases c3 : 0 ≤ a1
  · rw [if_pos c3] at H
    have c3b0 : decide (0 ≤ a1) = true := decide_eq_true c3
    clear c3
    by_cases c4 : a1 < (l0_2.length : Int)
    · rw [if_pos c4] at H
      have c4b0 : decide (a1 < (l0_2.length : Int)) = true := decide_eq_true c4
      clear c4; replace H := Option.bind_eq_some_iff.mp H; obtain ⟨⟨t218, t219⟩, A50, H⟩ := H
      replace H : (some (true, wrap64 ((rd_T42 l0_2 a1).f0), (rd_T42 l0_2 a1).f1, t218)) = some (r1, r2, r3, r4) := H
      have A5 := Aside0.mk A50; clear A50
      simp only [Option.some.injEq, Prod.mk.injEq] at H
      obtain ⟨rfl, rfl, rfl, rfl⟩ := H
      go_enter Try.func20, Try.ntmps20
      go_wp2_with (first | ((with_reducible refine gate_dst (N := 2) rfl ?_); refine box_event ?hg (N := 2) ?hd (cs := #[.slice A0_0 l0_0.length c0_0, .slice A0_1 l0_1.length c0_1, .slice A0_2 l0_2.length c0_2, .slice A0_3 l0_3.length c0_3, .slice A0_4 l0_4.length c0_4, .slice A0_5 l0_5.length c0_5, .slice A0_6 l0_6.length c0_6]) (t := 28) ?hr ?_; (case hd => rfl); (case hg => rfl); (case hr => first | (go_simp; done) | (go_simp; rfl)); intro gb214 hg w6 hbox hb; have n0_ := Aside0.mk (below_step (by repeat (first | (with_reducible first | exact HB.out | apply below_alloc | apply pw_below_drewN | apply below_drew1) | exact HB.out)) hb); have n1_ := Aside0.mk (hbox); have n2_ := Aside0.mk ((by rw [hg]; exact (below_size (by repeat (first | (with_reducible first | exact HB.out | apply below_alloc | apply pw_below_drewN | apply below_drew1) | exact HB.out))) : w.heap.size ≤ gb214)); have n3_ := Aside0.mk ((by rw [hg]; exact (below_size (by repeat (first | (with_reducible first | exact HB.out | apply below_alloc | apply pw_below_drewN | apply below_drew1) | exact HB.out))) : w.heap.size ≤ gb214)); clear HB; have HB := n0_; have BK214 := n1_; have GW214 := n2_; have GE214 := n3_; clear n0_ n1_ n2_ n3_; clear hb hbox hg) | ((with_reducible refine gate_dst (N := 4) rfl ?_); refine box_event ?hg (N := 4) ?hd (cs := #[.bool false, .int .i64 0, .bool false, .string (⟨#[]⟩ : ByteArray)]) (t := 33) ?hr ?_; (case hd => rfl); (case hg => rfl); (case hr => first | (go_simp; done) | (go_simp; rfl)); intro gb215 hg w7 hbox hb; have n0_ := Aside0.mk (blk_below (g := gb214) (o := .cells #[.slice A0_0 l0_0.length c0_0, .slice A0_1 l0_1.length c0_1, .slice A0_2 l0_2.length c0_2, .slice A0_3 l0_3.length c0_3, .slice A0_4 l0_4.length c0_4, .slice A0_5 l0_5.length c0_5, .slice A0_6 l0_6.length c0_6] 28 (0, 0)) (by (with_reducible repeat (first | refine blk_drewN ?_ _ | refine blk_drew ?_ | refine blk_alloc ?_ _)); exact BK214.out) hb); have n1_ := Aside0.mk (below_step (by repeat (first | (with_reducible first | exact HB.out | apply below_alloc | apply pw_below_drewN | apply below_drew1 | refine below_set ?_ GE214.out) | exact HB.out)) hb); have n2_ := Aside0.mk (hbox); have n3_ := Aside0.mk ((by rw [hg]; exact (below_size (by repeat (first | (with_reducible first | exact HB.out | apply below_alloc | apply pw_below_drewN | apply below_drew1 | refine below_set ?_ GE214.out) | exact HB.out))) : w.heap.size ≤ gb215)); have n4_ := Aside0.mk ((by rw [hg]; exact (below_size (by repeat (first | (with_reducible first | exact HB.out | apply below_alloc | apply pw_below_drewN | apply below_drew1 | refine below_set ?_ GE214.out) | exact HB.out))) : w.heap.size ≤ gb215)); have n5_ := Aside0.mk ((by rw [hg]; exact Nat.ne_of_lt (blk_lt (g := gb214) (o := .cells #[.slice A0_0 l0_0.length c0_0, .slice A0_1 l0_1.length c0_1, .slice A0_2 l0_2.length c0_2, .slice A0_3 l0_3.length c0_3, .slice A0_4 l0_4.length c0_4, .slice A0_5 l0_5.length c0_5, .slice A0_6 l0_6.length c0_6] 28 (0, 0)) (by (with_reducible repeat (first | refine blk_drewN ?_ _ | refine blk_drew ?_ | refine blk_alloc ?_ _)); exact BK214.out)) : gb214 ≠ gb215)); have n6_ := Aside0.mk ((by rw [hg]; exact Nat.ne_of_gt (blk_lt (g := gb214) (o := .cells #[.slice A0_0 l0_0.length c0_0, .slice A0_1 l0_1.length c0_1, .slice A0_2 l0_2.length c0_2, .slice A0_3 l0_3.length c0_3, .slice A0_4 l0_4.length c0_4, .slice A0_5 l0_5.length c0_5, .slice A0_6 l0_6.length c0_6] 28 (0, 0)) (by (with_reducible repeat (first | refine blk_drewN ?_ _ | refine blk_drew ?_ | refine blk_alloc ?_ _)); exact BK214.out)) : gb215 ≠ gb214)); clear BK214; clear HB; have BK214 := n0_; have HB := n1_; have BK215 := n2_; have GW215 := n3_; have GE215 := n4_; have NB214_215 := n5_; have NB215_214 := n6_; clear n0_ n1_ n2_ n3_ n4_ n5_ n6_; clear hb hbox hg; have hnb8 := NB214_215.out; have hnc8 := NB215_214.out; have hcz9_0 : w7.cell? ⟨gb214, 0, none⟩ = some (.slice A0_0 l0_0.length c0_0) := (blk_cell BK214.out 0).trans rfl; have hcz9_1 : w7.cell? ⟨gb214, 1, none⟩ = some (.slice A0_1 l0_1.length c0_1) := (blk_cell BK214.out 1).trans rfl; have hcz9_2 : w7.cell? ⟨gb214, 2, none⟩ = some (.slice A0_2 l0_2.length c0_2) := (blk_cell BK214.out 2).trans rfl; have hcz9_3 : w7.cell? ⟨gb214, 3, none⟩ = some (.slice A0_3 l0_3.length c0_3) := (blk_cell BK214.out 3).trans rfl; have hcz9_4 : w7.cell? ⟨gb214, 4, none⟩ = some (.slice A0_4 l0_4.length c0_4) := (blk_cell BK214.out 4).trans rfl; have hcz9_5 : w7.cell? ⟨gb214, 5, none⟩ = some (.slice A0_5 l0_5.length c0_5) := (blk_cell BK214.out 5).trans rfl; have hcz9_6 : w7.cell? ⟨gb214, 6, none⟩ = some (.slice A0_6 l0_6.length c0_6) := (blk_cell BK214.out 6).trans rfl; have hfz9_0 := blk_frozen BK214.out 0; have hfz9_1 := blk_frozen BK214.out 1; have hfz9_2 := blk_frozen BK214.out 2; have hfz9_3 := blk_frozen BK214.out 3; have hfz9_4 := blk_frozen BK214.out 4; have hfz9_5 := blk_frozen BK214.out 5; have hfz9_6 := blk_frozen BK214.out 6; have p216 : 0 ≤ (a1 : Int) := of_decide_eq_true (by first | (with_reducible assumption) | assumption); have q216 : a1 < (l0_2.length : Int) := of_decide_eq_true (by first | (with_reducible assumption) | assumption); obtain ⟨ad216, e216, hx216_0, hx216_1, hx216_2⟩ := at_T42 HR0_2.out a1 p216 q216; cases e216; replace hx216_0 := (HB.out.cell (World.block_lt_of_cell? w _ hx216_0)).trans hx216_0; replace hx216_1 := (HB.out.cell (World.block_lt_of_cell? w _ hx216_1)).trans hx216_1; replace hx216_2 := (HB.out.cell (World.block_lt_of_cell? w _ hx216_2)).trans hx216_2; replace p216 := eq_true p216; replace q216 := eq_true q216) | ((with_reducible refine gate_dst (N := 5) rfl ?_); refine box_event ?hg (N := 5) ?hd (cs := #[.int .i32 0, .bool false, .int .u8 0]) (t := 42) ?hr ?_; (case hd => rfl); (case hg => rfl); (case hr => first | (go_simp; done) | (go_simp; rfl)); intro gb217 hg w10 hbox hb; have n0_ := Aside0.mk (blk_below (g := gb214) (o := .cells #[.slice A0_0 l0_0.length c0_0, .slice A0_1 l0_1.length c0_1, .slice (some ad216) l0_2.length c0_2, .slice A0_3 l0_3.length c0_3, .slice A0_4 l0_4.length c0_4, .slice A0_5 l0_5.length c0_5, .slice A0_6 l0_6.length c0_6] 28 (0, 0)) (by (with_reducible repeat (first | refine blk_drewN ?_ _ | refine blk_drew ?_ | refine blk_alloc ?_ _)); exact BK214.out) hb); have n1_ := Aside0.mk (blk_below (g := gb215) (o := .cells #[.bool false, .int .i64 0, .bool false, .string (⟨#[]⟩ : ByteArray)] 33 (0, 0)) (by (with_reducible repeat (first | refine blk_drewN ?_ _ | refine blk_drew ?_ | refine blk_alloc ?_ _)); exact BK215.out) hb); have n2_ := Aside0.mk (below_step (by repeat (first | (with_reducible first | exact HB.out | apply below_alloc | apply pw_below_drewN | apply below_drew1 | refine below_set ?_ GE214.out | refine below_set ?_ GE215.out) | exact HB.out)) hb); have n3_ := Aside0.mk (hbox); have n4_ := Aside0.mk ((by rw [hg]; exact (below_size (by repeat (first | (with_reducible first | exact HB.out | apply below_alloc | apply pw_below_drewN | apply below_drew1 | refine below_set ?_ GE214.out | refine below_set ?_ GE215.out) | exact HB.out))) : w.heap.size ≤ gb217)); have n5_ := Aside0.mk ((by rw [hg]; exact (below_size (by repeat (first | (with_reducible first | exact HB.out | apply below_alloc | apply pw_below_drewN | apply below_drew1 | refine below_set ?_ GE214.out | refine below_set ?_ GE215.out) | exact HB.out))) : w.heap.size ≤ gb217)); have n6_ := Aside0.mk ((by rw [hg]; exact Nat.ne_of_lt (blk_lt (g := gb214) (o := .cells #[.slice A0_0 l0_0.length c0_0, .slice A0_1 l0_1.length c0_1, .slice (some ad216) l0_2.length c0_2, .slice A0_3 l0_3.length c0_3, .slice A0_4 l0_4.length c0_4, .slice A0_5 l0_5.length c0_5, .slice A0_6 l0_6.length c0_6] 28 (0, 0)) (by (with_reducible repeat (first | refine blk_drewN ?_ _ | refine blk_drew ?_ | refine blk_alloc ?_ _)); exact BK214.out)) : gb214 ≠ gb217)); have n7_ := Aside0.mk ((by rw [hg]; exact Nat.ne_of_gt (blk_lt (g := gb214) (o := .cells #[.slice A0_0 l0_0.length c0_0, .slice A0_1 l0_1.length c0_1, .slice (some ad216) l0_2.length c0_2, .slice A0_3 l0_3.length c0_3, .slice A0_4 l0_4.length c0_4, .slice A0_5 l0_5.length c0_5, .slice A0_6 l0_6.length c0_6] 28 (0, 0)) (by (with_reducible repeat (first | refine blk_drewN ?_ _ | refine blk_drew ?_ | refine blk_alloc ?_ _)); exact BK214.out)) : gb217 ≠ gb214)); have n8_ := Aside0.mk ((by rw [hg]; exact Nat.ne_of_lt (blk_lt (g := gb215) (o := .cells #[.bool false, .int .i64 0, .bool false, .string (⟨#[]⟩ : ByteArray)] 33 (0, 0)) (by (with_reducible repeat (first | refine blk_drewN ?_ _ | refine blk_drew ?_ | refine blk_alloc ?_ _)); exact BK215.out)) : gb215 ≠ gb217)); have n9_ := Aside0.mk ((by rw [hg]; exact Nat.ne_of_gt (blk_lt (g := gb215) (o := .cells #[.bool false, .int .i64 0, .bool false, .string (⟨#[]⟩ : ByteArray)] 33 (0, 0)) (by (with_reducible repeat (first | refine blk_drewN ?_ _ | refine blk_drew ?_ | refine blk_alloc ?_ _)); exact BK215.out)) : gb217 ≠ gb215)); clear BK214; clear BK215; clear HB; have BK214 := n0_; have BK215 := n1_; have HB := n2_; have BK217 := n3_; have GW217 := n4_; have GE217 := n5_; have NB214_217 := n6_; have NB217_214 := n7_; have NB215_217 := n8_; have NB217_215 := n9_; clear n0_ n1_ n2_ n3_ n4_ n5_ n6_ n7_ n8_ n9_; clear hb hbox hg; have hnb11 := NB217_214.out; have hnc11 := NB214_217.out; have hnb12 := NB217_215.out; have hnc12 := NB215_217.out; have hcz13_0 : w10.cell? ⟨gb217, 0, none⟩ = some (.int .i32 0) := (blk_cell BK217.out 0).trans rfl; have hcz13_1 : w10.cell? ⟨gb217, 1, none⟩ = some (.bool false) := (blk_cell BK217.out 1).trans rfl; have hcz13_2 : w10.cell? ⟨gb217, 2, none⟩ = some (.int .u8 0) := (blk_cell BK217.out 2).trans rfl; have hfz13_0 := blk_frozen BK217.out 0; have hfz13_1 := blk_frozen BK217.out 1; have hfz13_2 := blk_frozen BK217.out 2; have hcz14_0 : w10.cell? ⟨gb214, 0, none⟩ = some (.slice A0_0 l0_0.length c0_0) := (blk_cell BK214.out 0).trans rfl; have hcz14_1 : w10.cell? ⟨gb214, 1, none⟩ = some (.slice A0_1 l0_1.length c0_1) := (blk_cell BK214.out 1).trans rfl; have hcz14_2 : w10.cell? ⟨gb214, 2, none⟩ = some (.slice (some ad216) l0_2.length c0_2) := (blk_cell BK214.out 2).trans rfl; have hcz14_3 : w10.cell? ⟨gb214, 3, none⟩ = some (.slice A0_3 l0_3.length c0_3) := (blk_cell BK214.out 3).trans rfl; have hcz14_4 : w10.cell? ⟨gb214, 4, none⟩ = some (.slice A0_4 l0_4.length c0_4) := (blk_cell BK214.out 4).trans rfl; have hcz14_5 : w10.cell? ⟨gb214, 5, none⟩ = some (.slice A0_5 l0_5.length c0_5) := (blk_cell BK214.out 5).trans rfl; have hcz14_6 : w10.cell? ⟨gb214, 6, none⟩ = some (.slice A0_6 l0_6.length c0_6) := (blk_cell BK214.out 6).trans rfl; have hfz14_0 := blk_frozen BK214.out 0; have hfz14_1 := blk_frozen BK214.out 1; have hfz14_2 := blk_frozen BK214.out 2; have hfz14_3 := blk_frozen BK214.out 3; have hfz14_4 := blk_frozen BK214.out 4; have hfz14_5 := blk_frozen BK214.out 5; have hfz14_6 := blk_frozen BK214.out 6) | ((with_reducible refine gate_callee (f := 26) rfl ?_); refine goesL_ (some 19) rfl rfl Try.func26 (by kernel_rfl) rfl #[.slice A0_3 l0_3.length c0_3, .int .i64 (wrap64 ((rd_T42 l0_2 a1).f2))] rfl (by (try simp only [List.map_toArray, List.map_cons, List.map_nil]); first | done | rfl | (simp only [List.length_drop, List.length_take]; rfl)) ?_; (with_reducible refine (zoneinforef12_Name.calls k _ _ l0_3 (wrap64 ((rd_T42 l0_2 a1).f2)) t218 t219 _ ?side1 ?side2 A5.out).mono ?_); (case side1 => exact Kd.C_below HR0_3.out (by repeat (first | (with_reducible first | exact HB.out | apply below_alloc | apply pw_below_drewN | apply below_drew1 | refine below_set ?_ GE214.out | refine below_set ?_ GE215.out | refine below_set ?_ GE217.out) | exact HB.out))); (case side2 => exact HC0_3.out); rintro e w15 ⟨rfl, hb⟩; refine ⟨_, rfl, ?_⟩; have n0_ := Aside0.mk (blk_below (g := gb214) (o := .cells #[.slice A0_0 l0_0.length c0_0, .slice A0_1 l0_1.length c0_1, .slice (some ad216) l0_2.length c0_2, .slice A0_3 l0_3.length c0_3, .slice A0_4 l0_4.length c0_4, .slice A0_5 l0_5.length c0_5, .slice A0_6 l0_6.length c0_6] 28 (0, 0)) (by (with_reducible repeat (first | refine blk_drewN ?_ _ | refine blk_drew ?_ | refine blk_alloc ?_ _)); refine blk_far ?_ NB214_217.out _; (with_reducible repeat (first | refine blk_drewN ?_ _ | refine blk_drew ?_ | refine blk_alloc ?_ _)); refine blk_far ?_ NB214_217.out _; (with_reducible repeat (first | refine blk_drewN ?_ _ | refine blk_drew ?_ | refine blk_alloc ?_ _)); refine blk_far ?_ NB214_217.out _; (with_reducible repeat (first | refine blk_drewN ?_ _ | refine blk_drew ?_ | refine blk_alloc ?_ _)); exact BK214.out) hb); have n1_ := Aside0.mk (blk_below (g := gb215) (o := .cells #[.bool false, .int .i64 0, .bool false, .string (⟨#[]⟩ : ByteArray)] 33 (0, 0)) (by (with_reducible repeat (first | refine blk_drewN ?_ _ | refine blk_drew ?_ | refine blk_alloc ?_ _)); refine blk_far ?_ NB215_217.out _; (with_reducible repeat (first | refine blk_drewN ?_ _ | refine blk_drew ?_ | refine blk_alloc ?_ _)); refine blk_far ?_ NB215_217.out _; (with_reducible repeat (first | refine blk_drewN ?_ _ | refine blk_drew ?_ | refine blk_alloc ?_ _)); refine blk_far ?_ NB215_217.out _; (with_reducible repeat (first | refine blk_drewN ?_ _ | refine blk_drew ?_ | refine blk_alloc ?_ _)); exact BK215.out) hb); have n2_ := Aside0.mk (blk_below (g := gb217) (o := .cells #[.int .i32 ((rd_T42 l0_2 a1).f0), .bool ((rd_T42 l0_2 a1).f1), .int .u8 ((rd_T42 l0_2 a1).f2)] 42 (0, 0)) (by (with_reducible repeat (first | refine blk_drewN ?_ _ | refine blk_drew ?_ | refine blk_alloc ?_ _)); refine blk_put (cs := #[.int .i32 ((rd_T42 l0_2 a1).f0), .bool ((rd_T42 l0_2 a1).f1), .int .u8 0]) ?_ 2 _ rfl; (with_reducible repeat (first | refine blk_drewN ?_ _ | refine blk_drew ?_ | refine blk_alloc ?_ _)); refine blk_put (cs := #[.int .i32 ((rd_T42 l0_2 a1).f0), .bool false, .int .u8 0]) ?_ 1 _ rfl; (with_reducible repeat (first | refine blk_drewN ?_ _ | refine blk_drew ?_ | refine blk_alloc ?_ _)); refine blk_put (cs := #[.int .i32 0, .bool false, .int .u8 0]) ?_ 0 _ rfl; (with_reducible repeat (first | refine blk_drewN ?_ _ | refine blk_drew ?_ | refine blk_alloc ?_ _)); exact BK217.out) hb); have n3_ := Aside0.mk (below_step (by repeat (first | (with_reducible first | exact HB.out | apply below_alloc | apply pw_below_drewN | apply below_drew1 | refine below_set ?_ GE214.out | refine below_set ?_ GE215.out | refine below_set ?_ GE217.out) | exact HB.out)) hb); clear BK214; clear BK215; clear BK217; clear HB; have BK214 := n0_; have BK215 := n1_; have BK217 := n2_; have HB := n3_; clear n0_ n1_ n2_ n3_; (try clear hb); (try clear hb2); (try clear hk); (try clear hi); have hcz16_0 : w15.cell? ⟨gb217, 0, none⟩ = some (.int .i32 ((rd_T42 l0_2 a1).f0)) := (blk_cell BK217.out 0).trans rfl; have hcz16_1 : w15.cell? ⟨gb217, 1, none⟩ = some (.bool ((rd_T42 l0_2 a1).f1)) := (blk_cell BK217.out 1).trans rfl; have hcz16_2 : w15.cell? ⟨gb217, 2, none⟩ = some (.int .u8 ((rd_T42 l0_2 a1).f2)) := (blk_cell BK217.out 2).trans rfl; have hfz16_0 := blk_frozen BK217.out 0; have hfz16_1 := blk_frozen BK217.out 1; have hfz16_2 := blk_frozen BK217.out 2; have hcz17_0 : w15.cell? ⟨gb215, 0, none⟩ = some (.bool false) := (blk_cell BK215.out 0).trans rfl; have hcz17_1 : w15.cell? ⟨gb215, 1, none⟩ = some (.int .i64 0) := (blk_cell BK215.out 1).trans rfl; have hcz17_2 : w15.cell? ⟨gb215, 2, none⟩ = some (.bool false) := (blk_cell BK215.out 2).trans rfl; have hcz17_3 : w15.cell? ⟨gb215, 3, none⟩ = some (.string (⟨#[]⟩ : ByteArray)) := (blk_cell BK215.out 3).trans rfl; have hfz17_0 := blk_frozen BK215.out 0; have hfz17_1 := blk_frozen BK215.out 1; have hfz17_2 := blk_frozen BK215.out 2; have hfz17_3 := blk_frozen BK215.out 3))
      refine bodyPost_ret (results_cell_row rfl _ _ gb215 33 #[.bool true, .int .i64 (wrap64 ((rd_T42 l0_2 a1).f0)), .bool ((rd_T42 l0_2 a1).f1), .string t218] (0, 0) _ rfl (by (with_reducible repeat (first | refine blk_drewN ?_ _ | refine blk_drew ?_ | refine blk_alloc ?_ _)); refine blk_put (cs := #[.bool true, .int .i64 (wrap64 ((rd_T42 l0_2 a1).f0)), .bool ((rd_T42 l0_2 a1).f1), .string (⟨#[]⟩ : ByteArray)]) ?_ 3 _ rfl; (with_reducible repeat (first | refine blk_drewN ?_ _ | refine blk_drew ?_ | refine blk_alloc ?_ _)); refine blk_put (cs := #[.bool true, .int .i64 (wrap64 ((rd_T42 l0_2 a1).f0)), .bool false, .string (⟨#[]⟩ : ByteArray)]) ?_ 2 _ rfl; (with_reducible repeat (first | refine blk_drewN ?_ _ | refine blk_drew ?_ | refine blk_alloc ?_ _)); refine blk_put (cs := #[.bool true, .int .i64 0, .bool false, .string (⟨#[]⟩ : ByteArray)]) ?_ 1 _ rfl; (with_reducible repeat (first | refine blk_drewN ?_ _ | refine blk_drew ?_ | refine blk_alloc ?_ _)); refine blk_put (cs := #[.bool false, .int .i64 0, .bool false, .string (⟨#[]⟩ : ByteArray)]) ?_ 0 _ rfl; (with_reducible repeat (first | refine blk_drewN ?_ _ | refine blk_drew ?_ | refine blk_alloc ?_ _)); exact BK215.out) Try.underlying33 rfl (by kernel_rfl)) rfl ?_
      exact ⟨by first | rfl | (simp [errW_none, errW_some] <;> rfl) | (simp [*, errW_none, errW_some] <;> rfl), by repeat (first | (with_reducible first | exact HB.out | apply below_alloc | apply pw_below_drewN | apply below_drew1 | refine below_set ?_ GE214.out | refine below_set ?_ GE215.out | refine below_set ?_ GE217.out) | exact HB.out)⟩
    · rw [if_neg c4] at H
      exact absurd H (by simp)
  · rw [if_neg c3] at H
    exact absurd H (by simp)

/-! ### zoneinforef16_Placeholder: function 25 -/
def zoneinforef16_Placeholder.f (a0_0 : Int) (a0_1 : Bool) (a0_2 : Int) (a1 : ByteArray) : Option (Bool) := if a1.toList = ([45, 48, 48] : List UInt8) then (if a0_0 = 0 then (some (!a0_1)) else (some false)) else (some false)
set_option maxHeartbeats 8000000 in
set_option maxRecDepth 100000 in
theorem zoneinforef16_Placeholder.calls (a0_0 : Int) (a0_1 : Bool) (a0_2 : Int) (a1 : ByteArray) (r : Bool) (w : World) (h : zoneinforef16_Placeholder.f a0_0 a0_1 a0_2 a1 = some r) :
    Calls Try.prog 25 #[.agg #[.int .i32 a0_0, .bool a0_1, .int .u8 a0_2], .string a1] w fun e w' => e = .returned (.bool r) ∧ Below w.heap.size w w' := by
  have hu42 := Try.underlying42; have HB := Aside0.mk (Below.refl w.heap.size w)
  have H : (if a1.toList = ([45, 48, 48] : List UInt8) then (if a0_0 = 0 then (some (!a0_1)) else (some false)) else (some false)) = some r := h
  clear h
  by_cases c3 : a1.toList = ([45, 48, 48] : List UInt8)
  · rw [if_pos c3] at H
    have c3b0 : (a1.toList == ([45, 48, 48] : List UInt8)) = true := beq_iff_eq.mpr c3
    have c3b1 : (a1.toList != ([45, 48, 48] : List UInt8)) = false := bne_eq_false_iff_eq.mpr c3
    clear c3
    by_cases c4 : a0_0 = 0
    · rw [if_pos c4] at H
      have c4b0 : (a0_0 == 0) = true := beq_iff_eq.mpr c4
      have c4b1 : (a0_0 != 0) = false := bne_eq_false_iff_eq.mpr c4
      clear c4
      obtain rfl := Option.some.inj H
      go_enter Try.func25, Try.ntmps25
      go_wp2_with (first | ((with_reducible refine gate_dst (N := 2) rfl ?_); refine box_event ?hg (N := 2) ?hd (cs := #[.int .i32 a0_0, .bool a0_1, .int .u8 a0_2]) (t := 42) ?hr ?_; (case hd => rfl); (case hg => rfl); (case hr => first | (go_simp; done) | (go_simp; rfl)); intro gb220 hg w5 hbox hb; have n0_ := Aside0.mk (below_step (by repeat (first | (with_reducible first | exact HB.out | apply below_alloc | apply pw_below_drewN | apply below_drew1) | exact HB.out)) hb); have n1_ := Aside0.mk (hbox); have n2_ := Aside0.mk ((by rw [hg]; exact (below_size (by repeat (first | (with_reducible first | exact HB.out | apply below_alloc | apply pw_below_drewN | apply below_drew1) | exact HB.out))) : w.heap.size ≤ gb220)); have n3_ := Aside0.mk ((by rw [hg]; exact (below_size (by repeat (first | (with_reducible first | exact HB.out | apply below_alloc | apply pw_below_drewN | apply below_drew1) | exact HB.out))) : w.heap.size ≤ gb220)); clear HB; have HB := n0_; have BK220 := n1_; have GW220 := n2_; have GE220 := n3_; clear n0_ n1_ n2_ n3_; clear hb hbox hg; have hcz6_0 : w5.cell? ⟨gb220, 0, none⟩ = some (.int .i32 a0_0) := (blk_cell BK220.out 0).trans rfl; have hcz6_1 : w5.cell? ⟨gb220, 1, none⟩ = some (.bool a0_1) := (blk_cell BK220.out 1).trans rfl; have hcz6_2 : w5.cell? ⟨gb220, 2, none⟩ = some (.int .u8 a0_2) := (blk_cell BK220.out 2).trans rfl; have hfz6_0 := blk_frozen BK220.out 0; have hfz6_1 := blk_frozen BK220.out 1; have hfz6_2 := blk_frozen BK220.out 2))
      go_ret
      exact ⟨by first | rfl | (simp [errW_none, errW_some] <;> rfl) | (simp [*, errW_none, errW_some] <;> rfl), by repeat (first | (with_reducible first | exact HB.out | apply below_alloc | apply pw_below_drewN | apply below_drew1 | refine below_set ?_ GE220.out) | exact HB.out)⟩
    · rw [if_neg c4] at H
      have c4b0 : (a0_0 == 0) = false := beq_eq_false_iff_ne.mpr c4
      have c4b1 : (a0_0 != 0) = true := bne_iff_ne.mpr c4
      obtain rfl := Option.some.inj H
      go_enter Try.func25, Try.ntmps25
      go_wp2_with (first | ((with_reducible refine gate_dst (N := 2) rfl ?_); refine box_event ?hg (N := 2) ?hd (cs := #[.int .i32 a0_0, .bool a0_1, .int .u8 a0_2]) (t := 42) ?hr ?_; (case hd => rfl); (case hg => rfl); (case hr => first | (go_simp; done) | (go_simp; rfl)); intro gb220 hg w7 hbox hb; have n0_ := Aside0.mk (below_step (by repeat (first | (with_reducible first | exact HB.out | apply below_alloc | apply pw_below_drewN | apply below_drew1) | exact HB.out)) hb); have n1_ := Aside0.mk (hbox); have n2_ := Aside0.mk ((by rw [hg]; exact (below_size (by repeat (first | (with_reducible first | exact HB.out | apply below_alloc | apply pw_below_drewN | apply below_drew1) | exact HB.out))) : w.heap.size ≤ gb220)); have n3_ := Aside0.mk ((by rw [hg]; exact (below_size (by repeat (first | (with_reducible first | exact HB.out | apply below_alloc | apply pw_below_drewN | apply below_drew1) | exact HB.out))) : w.heap.size ≤ gb220)); clear HB; have HB := n0_; have BK220 := n1_; have GW220 := n2_; have GE220 := n3_; clear n0_ n1_ n2_ n3_; clear hb hbox hg; have hcz8_0 : w7.cell? ⟨gb220, 0, none⟩ = some (.int .i32 a0_0) := (blk_cell BK220.out 0).trans rfl; have hcz8_1 : w7.cell? ⟨gb220, 1, none⟩ = some (.bool a0_1) := (blk_cell BK220.out 1).trans rfl; have hcz8_2 : w7.cell? ⟨gb220, 2, none⟩ = some (.int .u8 a0_2) := (blk_cell BK220.out 2).trans rfl; have hfz8_0 := blk_frozen BK220.out 0; have hfz8_1 := blk_frozen BK220.out 1; have hfz8_2 := blk_frozen BK220.out 2))
      go_ret
      exact ⟨by first | rfl | (simp [errW_none, errW_some] <;> rfl) | (simp [*, errW_none, errW_some] <;> rfl), by repeat (first | (with_reducible first | exact HB.out | apply below_alloc | apply pw_below_drewN | apply below_drew1 | refine below_set ?_ GE220.out) | exact HB.out)⟩
  · rw [if_neg c3] at H
    have c3b0 : (a1.toList == ([45, 48, 48] : List UInt8)) = false := beq_eq_false_iff_ne.mpr c3
    have c3b1 : (a1.toList != ([45, 48, 48] : List UInt8)) = true := bne_iff_ne.mpr c3
    obtain rfl := Option.some.inj H
    go_enter Try.func25, Try.ntmps25
    go_wp2_with (first | ((with_reducible refine gate_dst (N := 2) rfl ?_); refine box_event ?hg (N := 2) ?hd (cs := #[.int .i32 a0_0, .bool a0_1, .int .u8 a0_2]) (t := 42) ?hr ?_; (case hd => rfl); (case hg => rfl); (case hr => first | (go_simp; done) | (go_simp; rfl)); intro gb220 hg w9 hbox hb; have n0_ := Aside0.mk (below_step (by repeat (first | (with_reducible first | exact HB.out | apply below_alloc | apply pw_below_drewN | apply below_drew1) | exact HB.out)) hb); have n1_ := Aside0.mk (hbox); have n2_ := Aside0.mk ((by rw [hg]; exact (below_size (by repeat (first | (with_reducible first | exact HB.out | apply below_alloc | apply pw_below_drewN | apply below_drew1) | exact HB.out))) : w.heap.size ≤ gb220)); have n3_ := Aside0.mk ((by rw [hg]; exact (below_size (by repeat (first | (with_reducible first | exact HB.out | apply below_alloc | apply pw_below_drewN | apply below_drew1) | exact HB.out))) : w.heap.size ≤ gb220)); clear HB; have HB := n0_; have BK220 := n1_; have GW220 := n2_; have GE220 := n3_; clear n0_ n1_ n2_ n3_; clear hb hbox hg))
    go_ret
    exact ⟨by first | rfl | (simp [errW_none, errW_some] <;> rfl) | (simp [*, errW_none, errW_some] <;> rfl), by repeat (first | (with_reducible first | exact HB.out | apply below_alloc | apply pw_below_drewN | apply below_drew1 | refine below_set ?_ GE220.out) | exact HB.out)⟩

end Go.Proofs.Ytfminjencigfeaa.G
