/- Written by a program of this session for this seat: contracts of the functions that its laws reach, or the row of a law over its plain part. -/
import Derived.Test.YtikgbmldbfgkdaaDoorGx0
import Derived.Test.YtikgbmldbfgkdaaDoorGx3
namespace Go.Proofs.YtikgbmldbfgkdaaDoor.G
open Go.RowKit Go.Proofs.YtikgbmldbfgkdaaDoorW.PrintWords Go.Proofs.YtikgbmldbfgkdaaDoorW.PrintLast Go.Proofs.YtikgbmldbfgkdaaDoorW.PrintMore
attribute [local go_sem] max2_int min2_int max_two min_two max_three min_three max_four min_four   -- for this text's walks alone
set_option linter.unusedVariables false
set_option linter.unusedSimpArgs false

/-! ### header_Encode: function 8 -/
abbrev ptrs6 (g : Nat) : Array Value := #[.pointer (some ⟨g, 1, none⟩), .pointer (some ⟨g, 2, none⟩), .pointer (some ⟨g, 3, none⟩), .pointer (some ⟨g, 4, none⟩), .pointer (some ⟨g, 5, none⟩), .pointer (some ⟨g, 6, none⟩)]
def hdrV (v : Int) (f : Nat → Int) : Array Value := #[.int .i64 v, .int .u32 (f 0), .int .u32 (f 1), .int .u32 (f 2), .int .u32 (f 3), .int .u32 (f 4), .int .u32 (f 5)]
def upd (f : Nat → Int) (i : Nat) (x : Int) : Nat → Int := fun j => if j = i then x else f j
def pick6 (x0 x1 x2 x3 x4 x5 : Int) : Nat → Int
  | 0 => x0
  | 1 => x1
  | 2 => x2
  | 3 => x3
  | 4 => x4
  | 5 => x5
  | _ => 0
theorem hdrV_get (v : Int) (f : Nat → Int) (i : Nat) (h : i < 6) : (hdrV v f)[i + 1]? = some (.int .u32 (f i)) := by
  have h6 : i = 0 ∨ i = 1 ∨ i = 2 ∨ i = 3 ∨ i = 4 ∨ i = 5 := by omega
  rcases h6 with rfl | rfl | rfl | rfl | rfl | rfl <;> rfl
theorem hdrV_set (v : Int) (f : Nat → Int) (i : Nat) (h : i < 6) (x : Int) : (hdrV v f).setIfInBounds (i + 1) (.int .u32 x) = hdrV v (upd f i x) := by
  have h6 : i = 0 ∨ i = 1 ∨ i = 2 ∨ i = 3 ∨ i = 4 ∨ i = 5 := by omega
  rcases h6 with rfl | rfl | rfl | rfl | rfl | rfl <;> rfl
theorem ptrs6_get (g i : Nat) (h : i < 6) : (ptrs6 g)[i]? = some (.pointer (some ⟨g, i + 1, none⟩)) := by
  have h6 : i = 0 ∨ i = 1 ∨ i = 2 ∨ i = 3 ∨ i = 4 ∨ i = 5 := by omega
  rcases h6 with rfl | rfl | rfl | rfl | rfl | rfl <;> rfl
theorem ptrs6_one (g : Nat) : (ptrs6 g).all (·.oneCell') = true := by simp [ptrs6, Value.oneCell']
def header_counts.f : Option Int := none
set_option maxHeartbeats 8000000 in
set_option maxRecDepth 100000 in
theorem header_counts.calls (g : Nat) (w : World) :
    Calls Tryd.prog 14 #[.pointer (some ⟨g, 0, none⟩)] w fun e w' => e = .returned (.agg (ptrs6 g)) ∧ Below w.heap.size w w' := by
  have HB := Aside0.mk (Below.refl w.heap.size w)
  go_enter Tryd.func14, Tryd.ntmps14
  go_wp2_with (first
    | ((with_reducible refine gate_dst (N := 2) rfl ?_); refine box_event ?hg (N := 2) ?hd (cs := #[.pointer none, .pointer none, .pointer none, .pointer none, .pointer none, .pointer none]) (t := 42) ?hr ?_; (case hd => rfl); (case hg => rfl); (case hr => first | (go_simp; done) | (go_simp; rfl)); intro g2 hg2 w1 hk2 hb1; have n2 := Aside0.mk (Nat.le_trans HB.out.size (Nat.le_of_eq hg2.symm)); have n1 := Aside0.mk (below_step HB.out hb1); clear HB; have HB := n1; have GE2 := n2; clear n1 n2; have K2 := Aside0.mk hk2; clear hk2 hb1 hg2))
  go_still_tail 19, (by kernel_rfl)
  change wpList _ _ _ _ _ w1.drew
  have K3 := Aside0.mk (blk_drew K2.out); have HB3 := Aside0.mk (below_drew1 HB.out); generalize w1.drew = w3 at K3 HB3 ⊢
  go_wp2_with (first
    | (refine row_store (cells := ptrs6 g) rfl 42 2 _ rfl rfl g2 rfl rfl K3.out (by kernel_rfl) rfl (ptrs6_one g) ?_; intro w4 hk hoth hb hsz1; have HB4 := Aside0.mk (hb _ _ GE2.out HB3.out); have K4 := Aside0.mk hk; clear hb hk hoth hsz1))
  refine bodyPost_ret (results_cell_row rfl _ _ g2 42 (ptrs6 g) (0, 0) _ rfl K4.out Tryd.underlying42 rfl (by kernel_rfl)) rfl ?_
  exact ⟨rfl, HB4.out⟩
def glens : List Int := [0, 0, 50, 51, 52]
abbrev GL (w : World) : Prop := Kd.C (Kd.int .u8) w (some ⟨0, 0, none⟩) glens.length glens
/-- n counts, appended one behind the other. -/
def app6 (k : Nat) (f : Nat → Int) (base : List Int) : Nat → Option (List Int)
  | 0 => some base
  | n + 1 => (app6 k f base n).bind fun l => bigendian_Append.f k l 4 (IntKind.u64.wrap (f n))
theorem app6_some {k : Nat} {f : Nat → Int} {base : List Int} : ∀ (d n : Nat) (r : List Int), app6 k f base (n + d) = some r → ∃ l, app6 k f base n = some l
  | 0, n, r, h => ⟨r, h⟩
  | d + 1, n, r, h => by
    obtain ⟨l, hl, _⟩ := Option.bind_eq_some_iff.mp (show (app6 k f base (n + d)).bind _ = some r from h)
    exact app6_some d n l hl
/-- The first twenty bytes. -/
def front20 (v : Int) : List Int := [84, 90, 105, 102, rd glens v] ++ List.replicate 15 0
def header_Encode.f (a0_0 : Int) (a0_1 : Int) (a0_2 : Int) (a0_3 : Int) (a0_4 : Int) (a0_5 : Int) (a0_6 : Int) : Option (List Int) := if 0 ≤ a0_0 ∧ a0_0 < 5 then app6 20 (pick6 a0_1 a0_2 a0_3 a0_4 a0_5 a0_6) (front20 a0_0) 6 else none
set_option maxHeartbeats 8000000 in
set_option maxRecDepth 100000 in
theorem header_Encode.calls (a0_0 : Int) (a0_1 : Int) (a0_2 : Int) (a0_3 : Int) (a0_4 : Int) (a0_5 : Int) (a0_6 : Int) (r : List Int) (w : World) (hrg : GL w) (h : header_Encode.f a0_0 a0_1 a0_2 a0_3 a0_4 a0_5 a0_6 = some r) :
    Calls Tryd.prog 8 #[.agg #[.int .i64 a0_0, .int .u32 a0_1, .int .u32 a0_2, .int .u32 a0_3, .int .u32 a0_4, .int .u32 a0_5, .int .u32 a0_6]] w fun e w' => ∃ v0_ : Value, e = .returned (v0_) ∧ Kd.R (Kd.int .u8) 5 w' w.heap.size (fun _ => True) v0_ r ∧ Below w.heap.size w w' := by
  have HRG := Aside0.mk hrg; have HB := Aside0.mk (Below.refl w.heap.size w); have H : (if 0 ≤ a0_0 ∧ a0_0 < 5 then app6 20 (pick6 a0_1 a0_2 a0_3 a0_4 a0_5 a0_6) (front20 a0_0) 6 else none) = some r := h; clear h hrg
  by_cases c1 : 0 ≤ a0_0 ∧ a0_0 < 5
  case neg => rw [if_neg c1] at H; cases H
  rw [if_pos c1] at H
  have H6 := Aside0.mk H; clear H; obtain ⟨p, q⟩ := c1; have p1 : decide (0 ≤ a0_0) = true := decide_eq_true p; have q1 : decide (a0_0 < 5) = true := decide_eq_true q; have PQ := Aside0.mk (And.intro p q); replace p := eq_true p; replace q := eq_true q
  go_enter Tryd.func8, Tryd.ntmps8
  go_upto_region 3 with (first
    | ((with_reducible refine gate_dst (N := 1) rfl ?_); refine box_event ?hg (N := 1) ?hd (cs := #[.int .i64 a0_0, .int .u32 a0_1, .int .u32 a0_2, .int .u32 a0_3, .int .u32 a0_4, .int .u32 a0_5, .int .u32 a0_6]) (t := 24) ?hr ?_; (case hd => rfl); (case hg => rfl); (case hr => first | (go_simp; done) | (go_simp; rfl)); intro g1 hg1 w1 hk1 hb1; have n2 := Aside0.mk (Nat.le_trans HB.out.size (Nat.le_of_eq hg1.symm)); have n1 := Aside0.mk (below_step HB.out hb1); clear HB; have HB := n1; have GE1 := n2; clear n1 n2; have K1 := Aside0.mk hk1; clear hk1 hb1 hg1; have hv : w1.cell? ⟨g1, 0, none⟩ = some (.int .i64 a0_0) := (blk_cell K1.out 0).trans rfl)
    | ((with_reducible refine gate_dst (N := 6) rfl ?_); refine lit_event ?hg (N := 6) ?hd (cs := #[.int .u8 84, .int .u8 90, .int .u8 105, .int .u8 102]) (e := 5) (n := 4) ?hr ?_; (case hd => rfl); (case hg => rfl); (case hr => first | (go_simp; done) | (go_simp; rfl)); intro g6 hg6 w2 hk6 hb; have n2 := Aside0.mk (Nat.le_trans HB.out.size (Nat.le_of_eq hg6.symm)); have n1 := Aside0.mk (below_step HB.out hb); have m1 := Aside0.mk (blk_below K1.out hb); have NE1_6 := Aside0.mk (show g1 ≠ g6 by rw [hg6]; exact Nat.ne_of_lt (blk_lt K1.out)); clear HB K1 hv; have HB := n1; have K1 := m1; have GE6 := n2; have K6 := Aside0.mk hk6; clear n1 n2 m1 hk6 hb hg6)
    | ((with_reducible refine gate_dst (N := 7) rfl ?_); (refine conv_event (T := 25) (e := 5) (g := g6) (n := 4) (c := 4) (x := .tmp 6) (cur := #[.int .u8 84, .int .u8 90, .int .u8 105, .int .u8 102]) ?hg ?ho Tryd.underlying25 Tryd.underlying5 ?hx K6.out ?_; (case hg => rfl); (case ho => rfl); (case hx => rfl)); intro w3 hk6 hgr; have n1 := Aside0.mk (HB.out.grown hgr HB.out.size (fun k hk => by injection hk with hk; rw [← hk]; exact GE6.out)); have m1 := Aside0.mk (blk_grown K1.out hgr (fun e => NE1_6.out (Option.some.inj e))); clear HB K1 K6; have HB := n1; have K1 := m1; have K6 := Aside0.mk hk6; clear n1 m1 hk6 hgr; have hv : w3.cell? ⟨g1, 0, none⟩ = some (.int .i64 a0_0) := (blk_cell K1.out 0).trans rfl; obtain ⟨ad, e1, hx⟩ := Kd.at_int (Kd.C_below HRG.out HB.out) a0_0 PQ.out.1 PQ.out.2; cases e1; replace hx : w3.cell? ⟨0, a0_0.toNat, none⟩ = some (.int .u8 (rd glens a0_0)) := by rw [add_at, Nat.zero_add] at hx; exact hx)
    | ((with_reducible refine gate_dst (N := 12) rfl ?_); refine lit_event ?hg (N := 12) ?hd (cs := #[.int .u8 (rd glens a0_0)]) (e := 5) (n := 1) ?hr ?_; (case hd => rfl); (case hg => rfl); (case hr => first | (go_simp; done) | (go_simp; rfl)); intro g12 hg12 w4 hk12 hb; have n1 := Aside0.mk (below_step HB.out hb); have m1 := Aside0.mk (blk_below K1.out hb); have m6 := Aside0.mk (blk_below K6.out hb); clear HB K1 K6 hv hx; have HB := n1; have K1 := m1; have K6 := m6; have K12 := Aside0.mk hk12; clear n1 m1 m6 hk12 hb hg12)
    | ((with_reducible refine gate_dst (N := 13) rfl ?_); refine append_full ?hg 7 12 (T := 25) (e := 5) (xs := [84, 90, 105, 102]) (ys := [rd glens a0_0]) (g := g6) (g2 := g12) (n := 4) (m := 1) ?hop Tryd.underlying25 (by kernel_rfl) ?hs ?hx K6.out K12.out rfl rfl ?h1 ?h2 ?_; (case h1 => omega); (case h2 => omega); (case hg => rfl); (case hop => rfl); (case hs => rfl); (case hx => rfl); intro v5 w5 hr5 hgr; have n1 := Aside0.mk (HB.out.grown hgr HB.out.size (fun k hk => by cases hk)); have m1 := Aside0.mk (blk_grown K1.out hgr (fun e => by cases e)); have HR5 := Aside0.mk hr5; have NE5 := Aside0.mk (show some g1 ≠ v5.ownBlock from fun e => Nat.not_le.2 (blk_lt K1.out) (Kd.R_base hr5 g1 e.symm)); have LW5 := Aside0.mk (Kd.R_lower hr5 HB.out.size); have SZ5 := Aside0.mk (Nat.le_trans HB.out.size hgr.size); clear HB K1 K6 K12 HR5 hr5 hgr; have HB := n1; have K1 := m1; clear n1 m1)
    | ((with_reducible refine gate_dst (N := 15) rfl ?_); go_loud (refine Kd.R_append_zeros (Kd.int .u8) (w0 := w) w.heap.size ?hg (.tmp 14) (.const (.int .i64 15)) 25 3 5 (.int .u8 0) 1 ?hop Tryd.underlying25 Tryd.underlying3 (by kernel_rfl) rfl (by decide) (by decide) v5 ([84, 90, 105, 102] ++ [rd glens a0_0]) 0 (kx := .i64) 15 (fun _ => True) ?hs ?hx (show Kd.M (Kd.int .u8) _ _ _ 0 [.int .u8 0] from rfl) (fun _ _ => trivial) LW5.out ?h0 HB.out SZ5.out ?hl ?_; (case h0 => omega); (case hl => simp); (case hg => rfl); (case hop => rfl); (case hs => rfl); (case hx => rfl)); intro v6 w6 hr6 hb6 hgr hat; have m1 := Aside0.mk (blk_grown K1.out hgr NE5.out); clear HB K1 LW5 SZ5 NE5; have HB := Aside0.mk hb6; have K1 := m1; have HR := Aside0.mk (show (Kd.int .u8).R 5 w6 w.heap.size (fun _ => True) v6 (front20 a0_0) from hr6); clear m1 hr6 hb6 hgr hat))
  replace K1 := Aside0.mk (show w6.heap[g1]? = some (.cells (hdrV a0_0 (pick6 a0_1 a0_2 a0_3 a0_4 a0_5 a0_6)) 24 (0, 0)) from K1.out)
  go_wp2_with (first
    | (go_at_call 14; (with_reducible refine (header_counts.calls g1 _).mono ?_); rintro e w7 ⟨rfl, hb⟩; have n1 := Aside0.mk (below_step HB.out hb); have m1 := Aside0.mk (blk_below K1.out hb); have r1 := Aside0.mk (Kd.R_below HR.out hb); clear HB K1 HR hb; have HB := n1; have K1 := m1; have HR := r1; clear n1 m1 r1))
  clear p1 q1 p q
  go_loopw [3, 17] (fun s i wr => ∃ j : Nat, ∃ l : List Int, j ≤ 6 ∧ i = .int .i64 (j : Int) ∧ Aside0 (app6 20 (pick6 a0_1 a0_2 a0_3 a0_4 a0_5 a0_6) (front20 a0_0) j = some l) ∧ Aside0 (wr.heap[g1]? = some (.cells (hdrV a0_0 (pick6 a0_1 a0_2 a0_3 a0_4 a0_5 a0_6)) 24 (0, 0))) ∧ Aside0 ((Kd.int .u8).R 5 wr w.heap.size (fun _ => True) s l) ∧ Aside0 (Below w.heap.size w wr)) (fun _ i _ => 6 - (intOf i).toNat)
  case atStart => exact ⟨0, _, by omega, rfl, ⟨rfl⟩, K1, HR, HB⟩
  case round =>
    clear K1 HR HB; obtain ⟨j, l, hj, rfl, HA, K1, HR, HB⟩ := hrel; obtain ⟨A, c, rfl, hlc, hC⟩ := Kd.R_reads HR.out; have HC := Aside0.mk hC; have HLC := Aside0.mk hlc; clear hC hlc
    by_cases hlt : j < 6
    · obtain ⟨l', hl'⟩ := app6_some (6 - (j + 1)) (j + 1) r (by rw [show j + 1 + (6 - (j + 1)) = 6 by omega]; exact H6.out)
      have HA' := Aside0.mk hl'
      have hap : bigendian_Append.f 20 l 4 (IntKind.u64.wrap ((pick6 a0_1 a0_2 a0_3 a0_4 a0_5 a0_6) j)) = some l' := by
        have := hl'
        rw [app6, HA.out, Option.bind_some] at this
        exact this
      have HAP := Aside0.mk hap; clear hl' hap; have hix : ∀ W, (Instr.index 42 (.agg (ptrs6 g1)) (.int .i64 (j : Int))).run Tryd.prog W = .ok (.pointer (some ⟨g1, j + 1, none⟩)) W := run_index_arr .i64 j Tryd.underlying42 Tryd.underlying41 rfl (by kernel_rfl) hlt (ptrs6_get g1 j hlt); have hcell : wr.cell? ⟨g1, j + 1, none⟩ = some (.int .u32 ((pick6 a0_1 a0_2 a0_3 a0_4 a0_5 a0_6) j)) := (blk_cell K1.out (j + 1)).trans (hdrV_get _ _ j hlt); have c1 : decide ((j : Int) < 6) = true := decide_eq_true (by omega)
      go_wp2_with (first
        | (go_at_call 15; (with_reducible refine (bigendian_Append.calls 20 _ _ l 4 (IntKind.u64.wrap ((pick6 a0_1 a0_2 a0_3 a0_4 a0_5 a0_6) j)) l' _ ?s1 ?s2 HAP.out).mono ?_); (case s1 => exact HC.out); (case s2 => exact HLC.out); rintro e w8 ⟨v8, rfl, hr, hb⟩; have n1 := Aside0.mk (below_step HB.out hb); have m1 := Aside0.mk (blk_below K1.out hb); have r1 := Aside0.mk (Kd.R_lower hr HB.out.size); clear HB K1 HR HC hr hb hcell; have HB := n1; have K1 := m1; have HR := r1; clear n1 m1 r1))
      go_roundw
      case rel => exact ⟨j + 1, l', by omega, by go_num, HA', K1, HR, HB⟩
      case measure => simp [intOf]; omega
    · have c1 : decide ((j : Int) < 6) = false := decide_eq_false (by omega)
      obtain rfl : j = 6 := by omega
      obtain rfl : l = r := Option.some.inj (HA.out.symm.trans H6.out)
      go_wp2
      go_ret
      exact ⟨_, rfl, HR.out, HB.out⟩

end Go.Proofs.YtikgbmldbfgkdaaDoor.G
