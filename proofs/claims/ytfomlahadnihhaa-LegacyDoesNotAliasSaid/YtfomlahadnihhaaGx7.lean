/- Written by a program of this session for this seat: contracts of the functions that its laws reach, or the row of a law over its plain part. -/
import Derived.Test.YtfomlahadnihhaaGx0
import Derived.Test.YtfomlahadnihhaaGx1
import Derived.Test.YtfomlahadnihhaaGx3
import Derived.Test.YtfomlahadnihhaaGx4
import Derived.Test.YtfomlahadnihhaaGx6
namespace Go.Proofs.Ytfomlahadnihhaa.G
open Go.RowKit Go.Proofs.YtfomlahadnihhaaW.PrintWords Go.Proofs.YtfomlahadnihhaaW.PrintLast Go.Proofs.YtfomlahadnihhaaW.PrintMore
attribute [local go_sem] max2_int min2_int max_two min_two max_three min_three max_four min_four   -- for this text's walks alone
set_option linter.unusedVariables false
set_option linter.unusedSimpArgs false

attribute [local go_sem high] eqA38
/-! ### zoneinfolaw22_awake: function 8 -/
def zoneinfolaw22_awake.f : Option Bool := some true
/-- Rows that are read alone, beside blocks. -/
structure Aw (w0 : World) (A0 : Option Addr) (L0 : List Int) (A1 : Option Addr) (L1 : List Int) (A2 : Option Addr) (L2 : List S38) (A3 : Option Addr) (L3 : List Int) (W : World) : Prop where
  hb : Below w0.heap.size w0 W
  q0 : Kd.C (Kd.int .i64) W A0 L0.length L0
  q1 : Kd.C (Kd.int .u8) W A1 L1.length L1
  q2 : Kd.C k38 W A2 L2.length L2
  q3 : Kd.C (Kd.int .u8) W A3 L3.length L3
theorem Aw.below {w0 W W1 : World} {A0 A1 A2 A3 L0 L1 L2 L3} (h : Aw w0 A0 L0 A1 L1 A2 L2 A3 L3 W) (hb : Below W.heap.size W W1) : Aw w0 A0 L0 A1 L1 A2 L2 A3 L3 W1 :=
  ⟨below_step h.hb hb, Kd.C_below h.q0 hb, Kd.C_below h.q1 hb, Kd.C_below h.q2 hb, Kd.C_below h.q3 hb⟩
set_option maxHeartbeats 8000000 in
set_option maxRecDepth 100000 in
theorem zoneinfolaw22_awake.calls (r : Bool) (w : World) (h : zoneinfolaw22_awake.f = some r) :
    Calls Try.prog 8 #[] w fun e w' => e = .returned (.bool r) ∧ Below w.heap.size w w' := by
  obtain rfl := Option.some.inj (show some true = some r from h)
  clear h
  obtain ⟨L0, hL0⟩ : ∃ l : List (Int), l = [(-1099511627776), 5, 1099511627776] := ⟨_, rfl⟩
  obtain ⟨L1, hL1⟩ : ∃ l : List (Int), l = [1, 0, 1] := ⟨_, rfl⟩
  obtain ⟨L2, hL2⟩ : ∃ l : List (S38), l = [⟨1, false, 0⟩, ⟨2, false, 0⟩] := ⟨_, rfl⟩
  obtain ⟨L3, hL3⟩ : ∃ l : List (Int), l = [0] := ⟨_, rfl⟩
  obtain ⟨V0, hV0⟩ : ∃ l : List (Int), l = [5] := ⟨_, rfl⟩
  obtain ⟨V1, hV1⟩ : ∃ l : List (Int), l = [1] := ⟨_, rfl⟩
  obtain ⟨V2, hV2⟩ : ∃ l : List (S38), l = [⟨2, false, 0⟩, ⟨1, false, 0⟩] := ⟨_, rfl⟩
  obtain ⟨V3, hV3⟩ : ∃ l : List (Int), l = [0] := ⟨_, rfl⟩
  obtain ⟨V4, hV4⟩ : ∃ l : List (S42), l = [] := ⟨_, rfl⟩
  obtain ⟨V5, hV5⟩ : ∃ l : List (Bool), l = [] := ⟨_, rfl⟩
  obtain ⟨V6, hV6⟩ : ∃ l : List (Bool), l = [] := ⟨_, rfl⟩
  obtain ⟨Z0, hZ0⟩ : ∃ l : List (Int), l = [] := ⟨_, rfl⟩
  obtain ⟨Z1, hZ1⟩ : ∃ l : List (Int), l = [] := ⟨_, rfl⟩
  obtain ⟨Z2, hZ2⟩ : ∃ l : List (S38), l = List.replicate 1 z38 := ⟨_, rfl⟩
  obtain ⟨Z3, hZ3⟩ : ∃ l : List (Int), l = [0] := ⟨_, rfl⟩
  obtain ⟨Z4, hZ4⟩ : ∃ l : List (S42), l = [] := ⟨_, rfl⟩
  obtain ⟨Z5, hZ5⟩ : ∃ l : List (Bool), l = [] := ⟨_, rfl⟩
  obtain ⟨Z6, hZ6⟩ : ∃ l : List (Bool), l = [] := ⟨_, rfl⟩
  have HV : Aside0 (legacy_View.f L0 L1 L2 L3 [] [] [] = some (V0, V1, V2, V3, V4, V5, V6)) := ⟨by rw [hL0, hL1, hL2, hL3, hV0, hV1, hV2, hV3, hV4, hV5, hV6]; kernel_rfl⟩; have HI0 : Aside0 (legacy_InEffect.f L0 L1 L2 L3 [] [] [] 4 = some 1) := ⟨by rw [hL0, hL1, hL2, hL3]; kernel_rfl⟩; have HI1 : Aside0 (legacy_InEffect.f L0 L1 L2 L3 [] [] [] 5 = some 0) := ⟨by rw [hL0, hL1, hL2, hL3]; kernel_rfl⟩; have HI2 : Aside0 (legacy_InEffect.f L0 L1 L2 L3 [] [] [] (-9223372036854775808) = some 0) := ⟨by rw [hL0, hL1, hL2, hL3]; kernel_rfl⟩; have HZ : Aside0 (legacy_Slim.f = some (Z0, Z1, Z2, Z3, Z4, Z5, Z6)) := ⟨by rw [hZ0, hZ1, hZ2, hZ3, hZ4, hZ5, hZ6]; kernel_rfl⟩; have HS0 : Aside0 (legacy_IsSlim.f 20 Z0 Z1 Z2 Z3 Z4 Z5 Z6 = some true) := ⟨by rw [hZ0, hZ1, hZ2, hZ3, hZ4, hZ5, hZ6]; kernel_rfl⟩; have HS1 : Aside0 (legacy_IsSlim.f 20 L0 L1 L2 L3 [] [] [] = some false) := ⟨by rw [hL0, hL1, hL2, hL3]; kernel_rfl⟩; have Hv0 : Aside0 (V0.length = 1) := ⟨by rw [hV0]; rfl⟩; have Hv1 : Aside0 (V1.length = 1) := ⟨by rw [hV1]; rfl⟩; have Hv2 : Aside0 (V2.length = 2) := ⟨by rw [hV2]; rfl⟩; have Hz2 : Aside0 (Z2.length = 1) := ⟨by rw [hZ2]; rfl⟩; have Hz3 : Aside0 (Z3.length = 1) := ⟨by rw [hZ3]; rfl⟩; have Hx0 : Aside0 (rd V0 0 = 5) := ⟨by rw [hV0]; rfl⟩; have Hx1 : Aside0 (rd V1 0 = 1) := ⟨by rw [hV1]; rfl⟩; have Hx2 : Aside0 ((rd_T38 V2 0).f0 = 2) := ⟨by rw [hV2]; rfl⟩; have Hx3 : Aside0 ((rd_T38 V2 1).f0 = 1) := ⟨by rw [hV2]; rfl⟩; have NL0 := Aside0.mk hL0; have NL1 := Aside0.mk hL1; have NL2 := Aside0.mk hL2; have NL3 := Aside0.mk hL3; clear hL0 hL1 hL2 hL3 hV0 hV1 hV2 hV3 hV4 hV5 hV6 hZ0 hZ1 hZ2 hZ3 hZ4 hZ5 hZ6; have HB := Aside0.mk (Below.refl w.heap.size w)
  go_enter Try.func8, Try.ntmps8
  (try simp only [List.append_eq, List.cons_append, List.nil_append])
  go_upto_region 3 with (first
    | ((with_reducible refine gate_dst (N := 4) rfl ?_); refine Kd.R_lit (w0 := w) (Kd.int .i64) w.heap.size 2 ?hg (N := 4) ?hd (xs := ([(-1099511627776), 5, 1099511627776] : List (Int))) (inner := [.int .i64 (-1099511627776), .int .i64 5, .int .i64 1099511627776]) (ok := fun _ => True) (okp := fun _ => True) ?hr ?hp (fun _ hk => hk) trivial (Below.refl _ _) (Nat.le_refl _) (by simp) ?_; (case hd => rfl); (case hg => rfl); (case hr => first | (go_simp; done) | (go_simp; rfl)); (case hp => exact (Reps.one (show Kd.M (Kd.int .i64) _ _ _ (-1099511627776) [.int .i64 (-1099511627776)] from rfl) (Reps.one (show Kd.M (Kd.int .i64) _ _ _ 5 [.int .i64 5] from rfl) (Reps.one (show Kd.M (Kd.int .i64) _ _ _ 1099511627776 [.int .i64 1099511627776] from rfl) (Reps.none _ _))))); intro v w1 ho hb hg hnew; rw [← NL0.out] at ho; obtain ⟨A0, c0, e_, hl, hc⟩ := Kd.R_reads ho; subst e_; have C0 := Aside0.mk hc; have HL0 := Aside0.mk hl; have hb2 := Aside0.mk (below_step HB.out hb); clear HB; have HB := hb2; clear hb2; clear ho hb hg hnew hc hl)
    | ((with_reducible refine gate_dst (N := 5) rfl ?_); refine Kd.R_lit (w0 := w1) (Kd.int .u8) w1.heap.size 5 ?hg (N := 5) ?hd (xs := ([1, 0, 1] : List (Int))) (inner := [.int .u8 1, .int .u8 0, .int .u8 1]) (ok := fun _ => True) (okp := fun _ => True) ?hr ?hp (fun _ hk => hk) trivial (Below.refl _ _) (Nat.le_refl _) (by simp) ?_; (case hd => rfl); (case hg => rfl); (case hr => first | (go_simp; done) | (go_simp; rfl)); (case hp => exact (Reps.one (show Kd.M (Kd.int .u8) _ _ _ 1 [.int .u8 1] from rfl) (Reps.one (show Kd.M (Kd.int .u8) _ _ _ 0 [.int .u8 0] from rfl) (Reps.one (show Kd.M (Kd.int .u8) _ _ _ 1 [.int .u8 1] from rfl) (Reps.none _ _))))); intro v w2 ho hb hg hnew; rw [← NL1.out] at ho; obtain ⟨A1, c1, e_, hl, hc⟩ := Kd.R_reads ho; subst e_; have C1 := Aside0.mk hc; have HL1 := Aside0.mk hl; have hb2 := Aside0.mk (below_step HB.out hb); clear HB; have HB := hb2; clear hb2; have m0 := Aside0.mk (Kd.C_below C0.out hb); clear C0; have C0 := m0; clear m0; clear ho hb hg hnew hc hl)
    | ((with_reducible refine gate_dst (N := 8) rfl ?_); refine Kd.R_lit (w0 := w2) k38 w2.heap.size 38 ?hg (N := 8) ?hd (xs := ([⟨1, false, 0⟩, ⟨2, false, 0⟩] : List (S38))) (inner := [.int .i32 1, .bool false, .int .u8 0, .int .i32 2, .bool false, .int .u8 0]) (ok := fun _ => True) (okp := fun _ => True) ?hr ?hp (fun _ hk => hk) trivial (Below.refl _ _) (Nat.le_refl _) (by simp) ?_; (case hd => rfl); (case hg => rfl); (case hr => first | (go_simp; done) | (go_simp; rfl)); (case hp => exact (Reps.c3 (show Kd.M k38 _ _ _ (⟨1, false, 0⟩ : S38) [.int .i32 1, .bool false, .int .u8 0] from k38_mkM _ _ _ (⟨1, false, 0⟩ : S38)) (Reps.c3 (show Kd.M k38 _ _ _ (⟨2, false, 0⟩ : S38) [.int .i32 2, .bool false, .int .u8 0] from k38_mkM _ _ _ (⟨2, false, 0⟩ : S38)) (Reps.none _ _)))); intro v w3 ho hb hg hnew; rw [← NL2.out] at ho; obtain ⟨A2, c2, e_, hl, hc⟩ := Kd.R_reads ho; subst e_; have C2 := Aside0.mk hc; have HL2 := Aside0.mk hl; have hb2 := Aside0.mk (below_step HB.out hb); clear HB; have HB := hb2; clear hb2; have m0 := Aside0.mk (Kd.C_below C0.out hb); clear C0; have C0 := m0; clear m0; have m1 := Aside0.mk (Kd.C_below C1.out hb); clear C1; have C1 := m1; clear m1; clear ho hb hg hnew hc hl)
    | ((with_reducible refine gate_dst (N := 9) rfl ?_); refine Kd.R_lit (w0 := w3) (Kd.int .u8) w3.heap.size 5 ?hg (N := 9) ?hd (xs := ([0] : List (Int))) (inner := [.int .u8 0]) (ok := fun _ => True) (okp := fun _ => True) ?hr ?hp (fun _ hk => hk) trivial (Below.refl _ _) (Nat.le_refl _) (by simp) ?_; (case hd => rfl); (case hg => rfl); (case hr => first | (go_simp; done) | (go_simp; rfl)); (case hp => exact (Reps.one (show Kd.M (Kd.int .u8) _ _ _ 0 [.int .u8 0] from rfl) (Reps.none _ _))); intro v w4 ho hb hg hnew; rw [← NL3.out] at ho; obtain ⟨A3, c3, e_, hl, hc⟩ := Kd.R_reads ho; subst e_; have C3 := Aside0.mk hc; have HL3 := Aside0.mk hl; have hb2 := Aside0.mk (below_step HB.out hb); clear HB; have HB := hb2; clear hb2; have m0 := Aside0.mk (Kd.C_below C0.out hb); clear C0; have C0 := m0; clear m0; have m1 := Aside0.mk (Kd.C_below C1.out hb); clear C1; have C1 := m1; clear m1; have m2 := Aside0.mk (Kd.C_below C2.out hb); clear C2; have C2 := m2; clear m2; have Q0 : Aside0 (Aw w A0 L0 A1 L1 A2 L2 A3 L3 w4) := ⟨⟨HB.out, C0.out, C1.out, C2.out, C3.out⟩⟩; clear ho hb hg hnew hc hl C0 C1 C2 C3 HB)
    | ((with_reducible refine gate_dst (N := 1) rfl ?_); refine box_event ?hg (N := 1) ?hd (cs := nil7) (t := 28) ?hr ?_; (case hd => rfl); (case hg => rfl); (case hr => first | (go_simp; done) | (go_simp; rfl)); intro g1 hg w5 hk hb; have KF := Aside0.mk hk; have BF : Aside0 (Below w4.heap.size w4 w5) := ⟨hb⟩; have GF : Aside0 (w4.heap.size ≤ g1) := ⟨Nat.le_of_eq hg.symm⟩; clear hk hb hg)
    | ((with_reducible refine gate_store (t := 28) (p := 1) rfl ?_); refine row_store (cells := #[.slice A0 L0.length c0, .slice A1 L1.length c1, .slice A2 L2.length c2, .slice A3 L3.length c3, .slice none 0 0, .slice none 0 0, .slice none 0 0]) rfl 28 1 _ rfl rfl g1 rfl rfl KF.out (by kernel_rfl) rfl (by simp [Value.oneCell']) ?_; intro w6 hk hoth hb hsz; have B_ := hb _ _ GF.out BF.out; have Q1 := Aside0.mk (Q0.out.below B_); have Kg1 := Aside0.mk hk; clear hk hoth hb hsz B_ KF BF GF Q0)
    | ((with_reducible refine gate_dst (N := 11) rfl ?_); refine wpList_load_row rfl 28 _ rfl g1 rfl 28 _ (0, 0) _ Kg1.out Try.underlying28 rfl (by kernel_rfl) ?_)
    | (go_at_call 17; refine calls_of_args (args' := #[.agg #[.slice A0 L0.length c0, .slice A1 L1.length c1, .slice A2 L2.length c2, .slice A3 L3.length c3, .slice none ([] : List (S42)).length 0, .slice none ([] : List Bool).length 0, .slice none ([] : List Bool).length 0]]) (by rfl) ?_; refine (legacy_View.calls A0 c0 L0 A1 c1 L1 A2 c2 L2 A3 c3 L3 none 0 [] none 0 [] none 0 [] V0 V1 V2 V3 V4 V5 V6 w6 Q1.out.q0 HL0.out Q1.out.q1 HL1.out Q1.out.q2 HL2.out Q1.out.q3 HL3.out (Kd.C_nil _ _) (Nat.le_refl 0) (Kd.C_nil _ _) (Nat.le_refl 0) (Kd.C_nil _ _) (Nat.le_refl 0) HV.out).mono ?_; rintro e w7 ⟨v0, v1, v2, v3, v4, v5, v6, rfl, f0, f1, f2, f3, f4, f5, f6, hb⟩; obtain ⟨VA0, vc0, e0, _, k0⟩ := Kd.R_reads f0; obtain ⟨VA1, vc1, e1, _, k1⟩ := Kd.R_reads f1; obtain ⟨VA2, vc2, e2, _, k2⟩ := Kd.R_reads f2; obtain ⟨VA3, vc3, e3, _, k3⟩ := Kd.R_reads f3; obtain ⟨VA4, vc4, e4⟩ := Kd.R_slice f4; obtain ⟨VA5, vc5, e5⟩ := Kd.R_slice f5; obtain ⟨VA6, vc6, e6⟩ := Kd.R_slice f6; subst e0 e1 e2 e3 e4 e5 e6; have Q2 := Aside0.mk (Q1.out.below hb); have U2 : Aside0 (Aw w VA0 V0 VA1 V1 VA2 V2 VA3 V3 w7) := ⟨⟨Q2.out.hb, k0, k1, k2, k3⟩⟩; have k_ := Aside0.mk (blk_below Kg1.out hb); clear Kg1; have Kg1 := k_; clear k_ f0 f1 f2 f3 f4 f5 f6 hb k0 k1 k2 k3 Q1)
    | ((with_reducible refine gate_dst (N := 2) rfl ?_); refine box_event ?hg (N := 2) ?hd (cs := nil7) (t := 28) ?hr ?_; (case hd => rfl); (case hg => rfl); (case hr => first | (go_simp; done) | (go_simp; rfl)); intro g2 hg w8 hk hb; have KF := Aside0.mk hk; have BF : Aside0 (Below w7.heap.size w7 w8) := ⟨hb⟩; have GF : Aside0 (w7.heap.size ≤ g2) := ⟨Nat.le_of_eq hg.symm⟩; clear hk hb hg)
    | ((with_reducible refine gate_store (t := 28) (p := 2) rfl ?_); refine row_store (cells := #[.slice VA0 V0.length vc0, .slice VA1 V1.length vc1, .slice VA2 V2.length vc2, .slice VA3 V3.length vc3, .slice VA4 V4.length vc4, .slice VA5 V5.length vc5, .slice VA6 V6.length vc6]) rfl 28 2 _ rfl rfl g2 rfl rfl KF.out (by kernel_rfl) rfl (by simp [Value.oneCell']) ?_; intro w9 hk hoth hb hsz; have B_ := hb _ _ GF.out BF.out; have Q3 := Aside0.mk (Q2.out.below B_); have U3 := Aside0.mk (U2.out.below B_); clear U2; have Kg2 := Aside0.mk hk; have Kg1' := Aside0.mk (blk_below Kg1.out B_); clear Kg1; have Kg1 := Kg1'; clear Kg1'; clear hk hoth hb hsz B_ KF BF GF Q2))
  have l0 := Hv0.out; have l1 := Hv1.out; have l2 := Hv2.out; have s0 : w9.cell? ⟨g2, 0, none⟩ = some (.slice VA0 V0.length vc0) := (blk_cell Kg2.out 0).trans rfl; have s1 : w9.cell? ⟨g2, 1, none⟩ = some (.slice VA1 V1.length vc1) := (blk_cell Kg2.out 1).trans rfl; have s2 : w9.cell? ⟨g2, 2, none⟩ = some (.slice VA2 V2.length vc2) := (blk_cell Kg2.out 2).trans rfl
  go_upto_region 6 with (first
    | (go_at_call 12; refine (legacy_Slim.calls Z0 Z1 Z2 Z3 Z4 Z5 Z6 w9 HZ.out).mono ?_; rintro e w10 ⟨v0, v1, v2, v3, v4, v5, v6, rfl, f0, f1, f2, f3, f4, f5, f6, hb⟩; obtain ⟨ZA0, zc0, e0, y0, k0⟩ := Kd.R_reads f0; obtain ⟨ZA1, zc1, e1, y1, k1⟩ := Kd.R_reads f1; obtain ⟨ZA2, zc2, e2, y2, k2⟩ := Kd.R_reads f2; obtain ⟨ZA3, zc3, e3, y3, k3⟩ := Kd.R_reads f3; obtain ⟨ZA4, zc4, e4, y4, k4⟩ := Kd.R_reads f4; obtain ⟨ZA5, zc5, e5, y5, k5⟩ := Kd.R_reads f5; obtain ⟨ZA6, zc6, e6, y6, k6⟩ := Kd.R_reads f6; subst e0 e1 e2 e3 e4 e5 e6; have Q4 := Aside0.mk (Q3.out.below hb); have U4 := Aside0.mk (U3.out.below hb); have ZC0 := Aside0.mk k0; have ZL0 := Aside0.mk y0; have ZC1 := Aside0.mk k1; have ZL1 := Aside0.mk y1; have ZC2 := Aside0.mk k2; have ZL2 := Aside0.mk y2; have ZC3 := Aside0.mk k3; have ZL3 := Aside0.mk y3; have ZC4 := Aside0.mk k4; have ZL4 := Aside0.mk y4; have ZC5 := Aside0.mk k5; have ZL5 := Aside0.mk y5; have ZC6 := Aside0.mk k6; have ZL6 := Aside0.mk y6; have k_ := Aside0.mk (blk_below Kg1.out hb); have j_ := Aside0.mk (blk_below Kg2.out hb); clear Kg1 Kg2 s0 s1 s2; have Kg1 := k_; have Kg2 := j_; clear k_ j_ f0 f1 f2 f3 f4 f5 f6 hb k0 k1 k2 k3 k4 k5 k6 y0 y1 y2 y3 y4 y5 y6 Q3 U3)
    | ((with_reducible refine gate_dst (N := 3) rfl ?_); refine box_event ?hg (N := 3) ?hd (cs := nil7) (t := 28) ?hr ?_; (case hd => rfl); (case hg => rfl); (case hr => first | (go_simp; done) | (go_simp; rfl)); intro g3 hg w11 hk hb; have KF := Aside0.mk hk; have BF : Aside0 (Below w10.heap.size w10 w11) := ⟨hb⟩; have GF : Aside0 (w10.heap.size ≤ g3) := ⟨Nat.le_of_eq hg.symm⟩; clear hk hb hg)
    | ((with_reducible refine gate_store (t := 28) (p := 3) rfl ?_); refine row_store (cells := #[.slice ZA0 Z0.length zc0, .slice ZA1 Z1.length zc1, .slice ZA2 Z2.length zc2, .slice ZA3 Z3.length zc3, .slice ZA4 Z4.length zc4, .slice ZA5 Z5.length zc5, .slice ZA6 Z6.length zc6]) rfl 28 3 _ rfl rfl g3 rfl rfl KF.out (by kernel_rfl) rfl (by simp [Value.oneCell']) ?_; intro w12 hk hoth hb hsz; have B_ := hb _ _ GF.out BF.out; have Q5 := Aside0.mk (Q4.out.below B_); have U5 := Aside0.mk (U4.out.below B_); clear U4; have z_0 := Aside0.mk (Kd.C_below ZC0.out B_); clear ZC0; have ZC0 := z_0; clear z_0; have z_1 := Aside0.mk (Kd.C_below ZC1.out B_); clear ZC1; have ZC1 := z_1; clear z_1; have z_2 := Aside0.mk (Kd.C_below ZC2.out B_); clear ZC2; have ZC2 := z_2; clear z_2; have z_3 := Aside0.mk (Kd.C_below ZC3.out B_); clear ZC3; have ZC3 := z_3; clear z_3; have z_4 := Aside0.mk (Kd.C_below ZC4.out B_); clear ZC4; have ZC4 := z_4; clear z_4; have z_5 := Aside0.mk (Kd.C_below ZC5.out B_); clear ZC5; have ZC5 := z_5; clear z_5; have z_6 := Aside0.mk (Kd.C_below ZC6.out B_); clear ZC6; have ZC6 := z_6; clear z_6; have Kg3 := Aside0.mk hk; have Kg1' := Aside0.mk (blk_below Kg1.out B_); clear Kg1; have Kg1 := Kg1'; clear Kg1'; have Kg2' := Aside0.mk (blk_below Kg2.out B_); clear Kg2; have Kg2 := Kg2'; clear Kg2'; clear hk hoth hb hsz B_ KF BF GF Q4))
  obtain ⟨a0, e0, y0⟩ := Kd.at_int U5.out.q0 0 (by decide) (by rw [l0]; decide); obtain ⟨a1, e1, y1⟩ := Kd.at_int U5.out.q1 0 (by decide) (by rw [l1]; decide); obtain ⟨a2, e2, y2, u1, u2⟩ := at_T38 U5.out.q2 0 (by decide) (by rw [l2]; decide); obtain ⟨a3, e3, y3, u3, u4⟩ := at_T38 U5.out.q2 1 (by decide) (by rw [l2]; decide)
  obtain rfl : a2 = a3 := by rw [e2] at e3; injection e3
  clear e3 u1 u2 u3 u4
  subst e0 e1 e2
  rw [show ((0 : Int)).toNat = 0 from rfl, Addr.add_zero', Hx0.out] at y0
  rw [show ((0 : Int)).toNat = 0 from rfl, Addr.add_zero', Hx1.out] at y1
  rw [show ((0 : Int)).toNat = 0 from rfl, Nat.zero_mul, Addr.add_zero', Hx2.out] at y2
  rw [show ((1 : Int)).toNat = 1 from rfl, Nat.one_mul, Hx3.out] at y3
  replace y3 : w12.cell? ⟨a2.block, a2.off + 3, none⟩ = some (.int .i32 1) := y3
  have s0 : w12.cell? ⟨g2, 0, none⟩ = some (.slice (some a0) V0.length vc0) := (blk_cell Kg2.out 0).trans rfl; have s1 : w12.cell? ⟨g2, 1, none⟩ = some (.slice (some a1) V1.length vc1) := (blk_cell Kg2.out 1).trans rfl; have s2 : w12.cell? ⟨g2, 2, none⟩ = some (.slice (some a2) V2.length vc2) := (blk_cell Kg2.out 2).trans rfl; have Ka := Kg1; have JKa := Kg3; have BZ := Aside0.mk (Below.refl w12.heap.size w12); clear Kg1 Kg2 Kg3
  go_wp2_with (first
    | ((with_reducible refine gate_dst (N := 59) rfl ?_); (try (refine gate_guard (by rfl) ?_; dsimp only)); refine wpList_load_row rfl 28 _ rfl g1 rfl 28 _ (0, 0) _ Ka.out Try.underlying28 rfl (by kernel_rfl) ?_)
    | (go_at_call 14; refine calls_of_args (args' := #[.agg #[.slice A0 L0.length c0, .slice A1 L1.length c1, .slice A2 L2.length c2, .slice A3 L3.length c3, .slice none ([] : List (S42)).length 0, .slice none ([] : List Bool).length 0, .slice none ([] : List Bool).length 0], .int .i64 4]) (by rfl) ?_; refine (legacy_InEffect.calls A0 c0 L0 A1 c1 L1 A2 c2 L2 A3 c3 L3 none 0 [] none 0 [] none 0 [] 4 _ w12 Q5.out.q0 HL0.out Q5.out.q1 HL1.out Q5.out.q2 HL2.out Q5.out.q3 HL3.out (Kd.C_nil _ _) (Nat.le_refl 0) (Kd.C_nil _ _) (Nat.le_refl 0) (Kd.C_nil _ _) (Nat.le_refl 0) HI0.out).mono ?_; rintro e w13 ⟨rfl, hb⟩; have BZ' := Aside0.mk (below_step BZ.out hb); clear BZ; have BZ := BZ'; clear BZ'; have Q6 := Aside0.mk (Q5.out.below hb); have Kb := Aside0.mk (blk_below Ka.out hb); have JKb := Aside0.mk (blk_below JKa.out hb); clear hb Q5 Ka)
    | ((with_reducible refine gate_dst (N := 64) rfl ?_); (try (refine gate_guard (by rfl) ?_; dsimp only)); refine wpList_load_row rfl 28 _ rfl g1 rfl 28 _ (0, 0) _ Kb.out Try.underlying28 rfl (by kernel_rfl) ?_)
    | (go_at_call 14; refine calls_of_args (args' := #[.agg #[.slice A0 L0.length c0, .slice A1 L1.length c1, .slice A2 L2.length c2, .slice A3 L3.length c3, .slice none ([] : List (S42)).length 0, .slice none ([] : List Bool).length 0, .slice none ([] : List Bool).length 0], .int .i64 5]) (by rfl) ?_; refine (legacy_InEffect.calls A0 c0 L0 A1 c1 L1 A2 c2 L2 A3 c3 L3 none 0 [] none 0 [] none 0 [] 5 _ w13 Q6.out.q0 HL0.out Q6.out.q1 HL1.out Q6.out.q2 HL2.out Q6.out.q3 HL3.out (Kd.C_nil _ _) (Nat.le_refl 0) (Kd.C_nil _ _) (Nat.le_refl 0) (Kd.C_nil _ _) (Nat.le_refl 0) HI1.out).mono ?_; rintro e w14 ⟨rfl, hb⟩; have BZ' := Aside0.mk (below_step BZ.out hb); clear BZ; have BZ := BZ'; clear BZ'; have Q7 := Aside0.mk (Q6.out.below hb); have Kc := Aside0.mk (blk_below Kb.out hb); have JKc := Aside0.mk (blk_below JKb.out hb); clear hb Q6 Kb)
    | ((with_reducible refine gate_dst (N := 69) rfl ?_); (try (refine gate_guard (by rfl) ?_; dsimp only)); refine wpList_load_row rfl 28 _ rfl g1 rfl 28 _ (0, 0) _ Kc.out Try.underlying28 rfl (by kernel_rfl) ?_)
    | (go_at_call 14; refine calls_of_args (args' := #[.agg #[.slice A0 L0.length c0, .slice A1 L1.length c1, .slice A2 L2.length c2, .slice A3 L3.length c3, .slice none ([] : List (S42)).length 0, .slice none ([] : List Bool).length 0, .slice none ([] : List Bool).length 0], .int .i64 (-9223372036854775808)]) (by rfl) ?_; refine (legacy_InEffect.calls A0 c0 L0 A1 c1 L1 A2 c2 L2 A3 c3 L3 none 0 [] none 0 [] none 0 [] (-9223372036854775808) _ w14 Q7.out.q0 HL0.out Q7.out.q1 HL1.out Q7.out.q2 HL2.out Q7.out.q3 HL3.out (Kd.C_nil _ _) (Nat.le_refl 0) (Kd.C_nil _ _) (Nat.le_refl 0) (Kd.C_nil _ _) (Nat.le_refl 0) HI2.out).mono ?_; rintro e w15 ⟨rfl, hb⟩; have BZ' := Aside0.mk (below_step BZ.out hb); clear BZ; have BZ := BZ'; clear BZ'; have Q8 := Aside0.mk (Q7.out.below hb); have Kd_ := Aside0.mk (blk_below Kc.out hb); have JKd_ := Aside0.mk (blk_below JKc.out hb); clear hb Q7 Kc)
    | ((with_reducible refine gate_dst (N := 74) rfl ?_); (try (refine gate_guard (by rfl) ?_; dsimp only)); refine wpList_load_row rfl 28 _ rfl g3 rfl 28 _ (0, 0) _ JKd_.out Try.underlying28 rfl (by kernel_rfl) ?_)
    | (go_at_call 10; refine (legacy_IsSlim.calls 20 ZA0 zc0 Z0 ZA1 zc1 Z1 ZA2 zc2 Z2 ZA3 zc3 Z3 ZA4 zc4 Z4 ZA5 zc5 Z5 ZA6 zc6 Z6 true w15 (Kd.C_below ZC0.out BZ.out) ZL0.out (Kd.C_below ZC1.out BZ.out) ZL1.out (Kd.C_below ZC2.out BZ.out) ZL2.out (Kd.C_below ZC3.out BZ.out) ZL3.out (Kd.C_below ZC4.out BZ.out) ZL4.out (Kd.C_below ZC5.out BZ.out) ZL5.out (Kd.C_below ZC6.out BZ.out) ZL6.out HS0.out).mono ?_; rintro e w16 ⟨rfl, hb⟩; have Q9 := Aside0.mk (Q8.out.below hb); have Ke := Aside0.mk (blk_below Kd_.out hb); have JKe := Aside0.mk (blk_below JKd_.out hb); clear hb Q8 Kd_ JKd_ HS0)
    | ((with_reducible refine gate_dst (N := 78) rfl ?_); (try (refine gate_guard (by rfl) ?_; dsimp only)); refine wpList_load_row rfl 28 _ rfl g1 rfl 28 _ (0, 0) _ Ke.out Try.underlying28 rfl (by kernel_rfl) ?_)
    | (go_at_call 10; refine calls_of_args (args' := #[.agg #[.slice A0 L0.length c0, .slice A1 L1.length c1, .slice A2 L2.length c2, .slice A3 L3.length c3, .slice none ([] : List (S42)).length 0, .slice none ([] : List Bool).length 0, .slice none ([] : List Bool).length 0]]) (by rfl) ?_; refine (legacy_IsSlim.calls 20 A0 c0 L0 A1 c1 L1 A2 c2 L2 A3 c3 L3 none 0 [] none 0 [] none 0 [] false w16 Q9.out.q0 HL0.out Q9.out.q1 HL1.out Q9.out.q2 HL2.out Q9.out.q3 HL3.out (Kd.C_nil _ _) (Nat.le_refl 0) (Kd.C_nil _ _) (Nat.le_refl 0) (Kd.C_nil _ _) (Nat.le_refl 0) HS1.out).mono ?_; rintro e w17 ⟨rfl, hb⟩; have R9 := Aside0.mk (below_step Q9.out.hb hb); have Kf := Aside0.mk (blk_below JKe.out hb); clear hb Q9 Ke JKe; have t2 : w17.cell? ⟨g3, 2, none⟩ = some (.slice ZA2 Z2.length zc2) := (blk_cell Kf.out 2).trans rfl; have t3 : w17.cell? ⟨g3, 3, none⟩ = some (.slice ZA3 Z3.length zc3) := (blk_cell Kf.out 3).trans rfl; have m2 := Hz2.out; have m3 := Hz3.out))
  refine bodyPost_ret (results_tmp (fn := Try.f8) rfl _ _ _) rfl ?_
  exact ⟨rfl, R9.out⟩

/-! ### zoneinforef19_Few: function 9 -/
def zoneinforef19_Few.f (l0_0 : List Int) (l0_1 : List Int) (l0_2 : List (S38)) (l0_3 : List Int) (l0_4 : List (S42)) (l0_5 : List Bool) (l0_6 : List Bool) : Option (Bool) := if (l0_0.length : Int) ≤ 200 then (if (l0_1.length : Int) ≤ 200 then (if (l0_2.length : Int) ≤ 200 then (if (l0_3.length : Int) ≤ 600 then (if (l0_4.length : Int) ≤ 200 then (if (l0_5.length : Int) ≤ 200 then (some (decide ((l0_6.length : Int) ≤ 200))) else (some false)) else (some false)) else (some false)) else (some false)) else (some false)) else (some false)
set_option maxHeartbeats 8000000 in
set_option maxRecDepth 100000 in
theorem zoneinforef19_Few.calls (A0_0 : Option Addr) (c0_0 : Nat) (l0_0 : List Int) (A0_1 : Option Addr) (c0_1 : Nat) (l0_1 : List Int) (A0_2 : Option Addr) (c0_2 : Nat) (l0_2 : List (S38)) (A0_3 : Option Addr) (c0_3 : Nat) (l0_3 : List Int) (A0_4 : Option Addr) (c0_4 : Nat) (l0_4 : List (S42)) (A0_5 : Option Addr) (c0_5 : Nat) (l0_5 : List Bool) (A0_6 : Option Addr) (c0_6 : Nat) (l0_6 : List Bool) (r : Bool) (w : World) (hr0_0 : Kd.C (Kd.int .i64) w A0_0 l0_0.length l0_0) (hc0_0 : l0_0.length ≤ c0_0) (hr0_1 : Kd.C (Kd.int .u8) w A0_1 l0_1.length l0_1) (hc0_1 : l0_1.length ≤ c0_1) (hr0_2 : Kd.C k38 w A0_2 l0_2.length l0_2) (hc0_2 : l0_2.length ≤ c0_2) (hr0_3 : Kd.C (Kd.int .u8) w A0_3 l0_3.length l0_3) (hc0_3 : l0_3.length ≤ c0_3) (hr0_4 : Kd.C k42 w A0_4 l0_4.length l0_4) (hc0_4 : l0_4.length ≤ c0_4) (hr0_5 : Kd.C Kd.bool w A0_5 l0_5.length l0_5) (hc0_5 : l0_5.length ≤ c0_5) (hr0_6 : Kd.C Kd.bool w A0_6 l0_6.length l0_6) (hc0_6 : l0_6.length ≤ c0_6) (h : zoneinforef19_Few.f l0_0 l0_1 l0_2 l0_3 l0_4 l0_5 l0_6 = some r) :
    Calls Try.prog 9 #[.agg #[.slice A0_0 l0_0.length c0_0, .slice A0_1 l0_1.length c0_1, .slice A0_2 l0_2.length c0_2, .slice A0_3 l0_3.length c0_3, .slice A0_4 l0_4.length c0_4, .slice A0_5 l0_5.length c0_5, .slice A0_6 l0_6.length c0_6]] w fun e w' => e = .returned (.bool r) ∧ Below w.heap.size w w' := by
  have hu28 := Try.underlying28; have HR0_0 := Aside0.mk hr0_0; have HC0_0 := Aside0.mk hc0_0; clear hr0_0 hc0_0; have HR0_1 := Aside0.mk hr0_1; have HC0_1 := Aside0.mk hc0_1; clear hr0_1 hc0_1; have HR0_2 := Aside0.mk hr0_2; have HC0_2 := Aside0.mk hc0_2; clear hr0_2 hc0_2; have HR0_3 := Aside0.mk hr0_3; have HC0_3 := Aside0.mk hc0_3; clear hr0_3 hc0_3; have HR0_4 := Aside0.mk hr0_4; have HC0_4 := Aside0.mk hc0_4; clear hr0_4 hc0_4; have HR0_5 := Aside0.mk hr0_5; have HC0_5 := Aside0.mk hc0_5; clear hr0_5 hc0_5; have HR0_6 := Aside0.mk hr0_6; have HC0_6 := Aside0.mk hc0_6; clear hr0_6 hc0_6; have HB := Aside0.mk (Below.refl w.heap.size w); have H : (if (l0_0.length : Int) ≤ 200 then (if (l0_1.length : Int) ≤ 200 then (if (l0_2.length : Int) ≤ 200 then (if (l0_3.length : Int) ≤ 600 then (if (l0_4.length : Int) ≤ 200 then (if (l0_5.length : Int) ≤ 200 then (some (decide ((l0_6.length : Int) ≤ 200))) else (some false)) else (some false)) else (some false)) else (some false)) else (some false)) else (some false)) = some r := h; clear h
  by_cases c2 : (l0_0.length : Int) ≤ 200
  · rw [if_pos c2] at H
    have c2b0 : decide ((l0_0.length : Int) ≤ 200) = true := decide_eq_true c2; have c2b1 : decide (l0_0.length ≤ 200) = true := decide_eq_true (by omega); clear c2
    by_cases c3 : (l0_1.length : Int) ≤ 200
    · rw [if_pos c3] at H
      have c3b0 : decide ((l0_1.length : Int) ≤ 200) = true := decide_eq_true c3; have c3b1 : decide (l0_1.length ≤ 200) = true := decide_eq_true (by omega); clear c3
      by_cases c4 : (l0_2.length : Int) ≤ 200
      · rw [if_pos c4] at H
        have c4b0 : decide ((l0_2.length : Int) ≤ 200) = true := decide_eq_true c4; have c4b1 : decide (l0_2.length ≤ 200) = true := decide_eq_true (by omega); clear c4
        by_cases c5 : (l0_3.length : Int) ≤ 600
        · rw [if_pos c5] at H
          have c5b0 : decide ((l0_3.length : Int) ≤ 600) = true := decide_eq_true c5; have c5b1 : decide (l0_3.length ≤ 600) = true := decide_eq_true (by omega); clear c5
          by_cases c6 : (l0_4.length : Int) ≤ 200
          · rw [if_pos c6] at H
            have c6b0 : decide ((l0_4.length : Int) ≤ 200) = true := decide_eq_true c6; have c6b1 : decide (l0_4.length ≤ 200) = true := decide_eq_true (by omega); clear c6
            by_cases c7 : (l0_5.length : Int) ≤ 200
            · rw [if_pos c7] at H
              have c7b0 : decide ((l0_5.length : Int) ≤ 200) = true := decide_eq_true c7; have c7b1 : decide (l0_5.length ≤ 200) = true := decide_eq_true (by omega); clear c7
              obtain rfl := Option.some.inj H
              go_enter Try.func9, Try.ntmps9
              go_wp2_with (first | ((with_reducible refine gate_dst (N := 1) rfl ?_); (try (refine gate_guard (by rfl) ?_; dsimp only)); refine box_event ?hg (N := 1) ?hd (cs := #[.slice A0_0 l0_0.length c0_0, .slice A0_1 l0_1.length c0_1, .slice A0_2 l0_2.length c0_2, .slice A0_3 l0_3.length c0_3, .slice A0_4 l0_4.length c0_4, .slice A0_5 l0_5.length c0_5, .slice A0_6 l0_6.length c0_6]) (t := 28) ?hr ?_; (case hd => rfl); (case hg => rfl); (case hr => first | (go_simp; done) | (go_simp; rfl)); intro gb141 hg w8 hbox hb; have n0_ := Aside0.mk (below_step (by repeat (first | (with_reducible first | exact HB.out | apply below_alloc | apply pw_below_drewN | apply below_drew1) | exact HB.out)) hb); have n1_ := Aside0.mk (hbox); have n2_ := Aside0.mk ((by rw [hg]; exact (below_size (by repeat (first | (with_reducible first | exact HB.out | apply below_alloc | apply pw_below_drewN | apply below_drew1) | exact HB.out))) : w.heap.size ≤ gb141)); have n3_ := n2_; clear HB; have HB := n0_; have BK141 := n1_; have GW141 := n2_; have GE141 := n3_; clear n0_ n1_ n2_ n3_; clear hb hbox hg; have hcz9_0 : w8.cell? ⟨gb141, 0, none⟩ = some (.slice A0_0 l0_0.length c0_0) := (blk_cell BK141.out 0).trans rfl; have hcz9_1 : w8.cell? ⟨gb141, 1, none⟩ = some (.slice A0_1 l0_1.length c0_1) := (blk_cell BK141.out 1).trans rfl; have hcz9_2 : w8.cell? ⟨gb141, 2, none⟩ = some (.slice A0_2 l0_2.length c0_2) := (blk_cell BK141.out 2).trans rfl; have hcz9_3 : w8.cell? ⟨gb141, 3, none⟩ = some (.slice A0_3 l0_3.length c0_3) := (blk_cell BK141.out 3).trans rfl; have hcz9_4 : w8.cell? ⟨gb141, 4, none⟩ = some (.slice A0_4 l0_4.length c0_4) := (blk_cell BK141.out 4).trans rfl; have hcz9_5 : w8.cell? ⟨gb141, 5, none⟩ = some (.slice A0_5 l0_5.length c0_5) := (blk_cell BK141.out 5).trans rfl; have hcz9_6 : w8.cell? ⟨gb141, 6, none⟩ = some (.slice A0_6 l0_6.length c0_6) := (blk_cell BK141.out 6).trans rfl; have hfz9_0 := blk_frozen BK141.out 0; have hfz9_1 := blk_frozen BK141.out 1; have hfz9_2 := blk_frozen BK141.out 2; have hfz9_3 := blk_frozen BK141.out 3; have hfz9_4 := blk_frozen BK141.out 4; have hfz9_5 := blk_frozen BK141.out 5; have hfz9_6 := blk_frozen BK141.out 6))
              go_ret
              exact ⟨by first | rfl | (simp [errW_none, errW_some] <;> rfl) | (simp [*, errW_none, errW_some] <;> rfl), by repeat (first | (with_reducible first | exact HB.out | apply below_alloc | apply pw_below_drewN | apply below_drew1 | refine below_set ?_ GE141.out) | exact HB.out)⟩
            · rw [if_neg c7] at H
              have c7b0 : decide ((l0_5.length : Int) ≤ 200) = false := decide_eq_false c7; have c7b1 : decide (l0_5.length ≤ 200) = false := decide_eq_false (by omega); clear c7
              obtain rfl := Option.some.inj H
              go_enter Try.func9, Try.ntmps9
              go_wp2_with (first | ((with_reducible refine gate_dst (N := 1) rfl ?_); (try (refine gate_guard (by rfl) ?_; dsimp only)); refine box_event ?hg (N := 1) ?hd (cs := #[.slice A0_0 l0_0.length c0_0, .slice A0_1 l0_1.length c0_1, .slice A0_2 l0_2.length c0_2, .slice A0_3 l0_3.length c0_3, .slice A0_4 l0_4.length c0_4, .slice A0_5 l0_5.length c0_5, .slice A0_6 l0_6.length c0_6]) (t := 28) ?hr ?_; (case hd => rfl); (case hg => rfl); (case hr => first | (go_simp; done) | (go_simp; rfl)); intro gb141 hg w10 hbox hb; have n0_ := Aside0.mk (below_step (by repeat (first | (with_reducible first | exact HB.out | apply below_alloc | apply pw_below_drewN | apply below_drew1) | exact HB.out)) hb); have n1_ := Aside0.mk (hbox); have n2_ := Aside0.mk ((by rw [hg]; exact (below_size (by repeat (first | (with_reducible first | exact HB.out | apply below_alloc | apply pw_below_drewN | apply below_drew1) | exact HB.out))) : w.heap.size ≤ gb141)); have n3_ := n2_; clear HB; have HB := n0_; have BK141 := n1_; have GW141 := n2_; have GE141 := n3_; clear n0_ n1_ n2_ n3_; clear hb hbox hg; have hcz11_0 : w10.cell? ⟨gb141, 0, none⟩ = some (.slice A0_0 l0_0.length c0_0) := (blk_cell BK141.out 0).trans rfl; have hcz11_1 : w10.cell? ⟨gb141, 1, none⟩ = some (.slice A0_1 l0_1.length c0_1) := (blk_cell BK141.out 1).trans rfl; have hcz11_2 : w10.cell? ⟨gb141, 2, none⟩ = some (.slice A0_2 l0_2.length c0_2) := (blk_cell BK141.out 2).trans rfl; have hcz11_3 : w10.cell? ⟨gb141, 3, none⟩ = some (.slice A0_3 l0_3.length c0_3) := (blk_cell BK141.out 3).trans rfl; have hcz11_4 : w10.cell? ⟨gb141, 4, none⟩ = some (.slice A0_4 l0_4.length c0_4) := (blk_cell BK141.out 4).trans rfl; have hcz11_5 : w10.cell? ⟨gb141, 5, none⟩ = some (.slice A0_5 l0_5.length c0_5) := (blk_cell BK141.out 5).trans rfl; have hcz11_6 : w10.cell? ⟨gb141, 6, none⟩ = some (.slice A0_6 l0_6.length c0_6) := (blk_cell BK141.out 6).trans rfl; have hfz11_0 := blk_frozen BK141.out 0; have hfz11_1 := blk_frozen BK141.out 1; have hfz11_2 := blk_frozen BK141.out 2; have hfz11_3 := blk_frozen BK141.out 3; have hfz11_4 := blk_frozen BK141.out 4; have hfz11_5 := blk_frozen BK141.out 5; have hfz11_6 := blk_frozen BK141.out 6))
              go_ret
              exact ⟨by first | rfl | (simp [errW_none, errW_some] <;> rfl) | (simp [*, errW_none, errW_some] <;> rfl), by repeat (first | (with_reducible first | exact HB.out | apply below_alloc | apply pw_below_drewN | apply below_drew1 | refine below_set ?_ GE141.out) | exact HB.out)⟩
          · rw [if_neg c6] at H
            have c6b0 : decide ((l0_4.length : Int) ≤ 200) = false := decide_eq_false c6; have c6b1 : decide (l0_4.length ≤ 200) = false := decide_eq_false (by omega); clear c6
            obtain rfl := Option.some.inj H
            go_enter Try.func9, Try.ntmps9
            go_wp2_with (first | ((with_reducible refine gate_dst (N := 1) rfl ?_); (try (refine gate_guard (by rfl) ?_; dsimp only)); refine box_event ?hg (N := 1) ?hd (cs := #[.slice A0_0 l0_0.length c0_0, .slice A0_1 l0_1.length c0_1, .slice A0_2 l0_2.length c0_2, .slice A0_3 l0_3.length c0_3, .slice A0_4 l0_4.length c0_4, .slice A0_5 l0_5.length c0_5, .slice A0_6 l0_6.length c0_6]) (t := 28) ?hr ?_; (case hd => rfl); (case hg => rfl); (case hr => first | (go_simp; done) | (go_simp; rfl)); intro gb141 hg w12 hbox hb; have n0_ := Aside0.mk (below_step (by repeat (first | (with_reducible first | exact HB.out | apply below_alloc | apply pw_below_drewN | apply below_drew1) | exact HB.out)) hb); have n1_ := Aside0.mk (hbox); have n2_ := Aside0.mk ((by rw [hg]; exact (below_size (by repeat (first | (with_reducible first | exact HB.out | apply below_alloc | apply pw_below_drewN | apply below_drew1) | exact HB.out))) : w.heap.size ≤ gb141)); have n3_ := n2_; clear HB; have HB := n0_; have BK141 := n1_; have GW141 := n2_; have GE141 := n3_; clear n0_ n1_ n2_ n3_; clear hb hbox hg; have hcz13_0 : w12.cell? ⟨gb141, 0, none⟩ = some (.slice A0_0 l0_0.length c0_0) := (blk_cell BK141.out 0).trans rfl; have hcz13_1 : w12.cell? ⟨gb141, 1, none⟩ = some (.slice A0_1 l0_1.length c0_1) := (blk_cell BK141.out 1).trans rfl; have hcz13_2 : w12.cell? ⟨gb141, 2, none⟩ = some (.slice A0_2 l0_2.length c0_2) := (blk_cell BK141.out 2).trans rfl; have hcz13_3 : w12.cell? ⟨gb141, 3, none⟩ = some (.slice A0_3 l0_3.length c0_3) := (blk_cell BK141.out 3).trans rfl; have hcz13_4 : w12.cell? ⟨gb141, 4, none⟩ = some (.slice A0_4 l0_4.length c0_4) := (blk_cell BK141.out 4).trans rfl; have hcz13_5 : w12.cell? ⟨gb141, 5, none⟩ = some (.slice A0_5 l0_5.length c0_5) := (blk_cell BK141.out 5).trans rfl; have hcz13_6 : w12.cell? ⟨gb141, 6, none⟩ = some (.slice A0_6 l0_6.length c0_6) := (blk_cell BK141.out 6).trans rfl; have hfz13_0 := blk_frozen BK141.out 0; have hfz13_1 := blk_frozen BK141.out 1; have hfz13_2 := blk_frozen BK141.out 2; have hfz13_3 := blk_frozen BK141.out 3; have hfz13_4 := blk_frozen BK141.out 4; have hfz13_5 := blk_frozen BK141.out 5; have hfz13_6 := blk_frozen BK141.out 6))
            go_ret
            exact ⟨by first | rfl | (simp [errW_none, errW_some] <;> rfl) | (simp [*, errW_none, errW_some] <;> rfl), by repeat (first | (with_reducible first | exact HB.out | apply below_alloc | apply pw_below_drewN | apply below_drew1 | refine below_set ?_ GE141.out) | exact HB.out)⟩
        · rw [if_neg c5] at H
          have c5b0 : decide ((l0_3.length : Int) ≤ 600) = false := decide_eq_false c5; have c5b1 : decide (l0_3.length ≤ 600) = false := decide_eq_false (by omega); clear c5
          obtain rfl := Option.some.inj H
          go_enter Try.func9, Try.ntmps9
          go_wp2_with (first | ((with_reducible refine gate_dst (N := 1) rfl ?_); (try (refine gate_guard (by rfl) ?_; dsimp only)); refine box_event ?hg (N := 1) ?hd (cs := #[.slice A0_0 l0_0.length c0_0, .slice A0_1 l0_1.length c0_1, .slice A0_2 l0_2.length c0_2, .slice A0_3 l0_3.length c0_3, .slice A0_4 l0_4.length c0_4, .slice A0_5 l0_5.length c0_5, .slice A0_6 l0_6.length c0_6]) (t := 28) ?hr ?_; (case hd => rfl); (case hg => rfl); (case hr => first | (go_simp; done) | (go_simp; rfl)); intro gb141 hg w14 hbox hb; have n0_ := Aside0.mk (below_step (by repeat (first | (with_reducible first | exact HB.out | apply below_alloc | apply pw_below_drewN | apply below_drew1) | exact HB.out)) hb); have n1_ := Aside0.mk (hbox); have n2_ := Aside0.mk ((by rw [hg]; exact (below_size (by repeat (first | (with_reducible first | exact HB.out | apply below_alloc | apply pw_below_drewN | apply below_drew1) | exact HB.out))) : w.heap.size ≤ gb141)); have n3_ := n2_; clear HB; have HB := n0_; have BK141 := n1_; have GW141 := n2_; have GE141 := n3_; clear n0_ n1_ n2_ n3_; clear hb hbox hg; have hcz15_0 : w14.cell? ⟨gb141, 0, none⟩ = some (.slice A0_0 l0_0.length c0_0) := (blk_cell BK141.out 0).trans rfl; have hcz15_1 : w14.cell? ⟨gb141, 1, none⟩ = some (.slice A0_1 l0_1.length c0_1) := (blk_cell BK141.out 1).trans rfl; have hcz15_2 : w14.cell? ⟨gb141, 2, none⟩ = some (.slice A0_2 l0_2.length c0_2) := (blk_cell BK141.out 2).trans rfl; have hcz15_3 : w14.cell? ⟨gb141, 3, none⟩ = some (.slice A0_3 l0_3.length c0_3) := (blk_cell BK141.out 3).trans rfl; have hcz15_4 : w14.cell? ⟨gb141, 4, none⟩ = some (.slice A0_4 l0_4.length c0_4) := (blk_cell BK141.out 4).trans rfl; have hcz15_5 : w14.cell? ⟨gb141, 5, none⟩ = some (.slice A0_5 l0_5.length c0_5) := (blk_cell BK141.out 5).trans rfl; have hcz15_6 : w14.cell? ⟨gb141, 6, none⟩ = some (.slice A0_6 l0_6.length c0_6) := (blk_cell BK141.out 6).trans rfl; have hfz15_0 := blk_frozen BK141.out 0; have hfz15_1 := blk_frozen BK141.out 1; have hfz15_2 := blk_frozen BK141.out 2; have hfz15_3 := blk_frozen BK141.out 3; have hfz15_4 := blk_frozen BK141.out 4; have hfz15_5 := blk_frozen BK141.out 5; have hfz15_6 := blk_frozen BK141.out 6))
          go_ret
          exact ⟨by first | rfl | (simp [errW_none, errW_some] <;> rfl) | (simp [*, errW_none, errW_some] <;> rfl), by repeat (first | (with_reducible first | exact HB.out | apply below_alloc | apply pw_below_drewN | apply below_drew1 | refine below_set ?_ GE141.out) | exact HB.out)⟩
      · rw [if_neg c4] at H
        have c4b0 : decide ((l0_2.length : Int) ≤ 200) = false := decide_eq_false c4; have c4b1 : decide (l0_2.length ≤ 200) = false := decide_eq_false (by omega); clear c4
        obtain rfl := Option.some.inj H
        go_enter Try.func9, Try.ntmps9
        go_wp2_with (first | ((with_reducible refine gate_dst (N := 1) rfl ?_); (try (refine gate_guard (by rfl) ?_; dsimp only)); refine box_event ?hg (N := 1) ?hd (cs := #[.slice A0_0 l0_0.length c0_0, .slice A0_1 l0_1.length c0_1, .slice A0_2 l0_2.length c0_2, .slice A0_3 l0_3.length c0_3, .slice A0_4 l0_4.length c0_4, .slice A0_5 l0_5.length c0_5, .slice A0_6 l0_6.length c0_6]) (t := 28) ?hr ?_; (case hd => rfl); (case hg => rfl); (case hr => first | (go_simp; done) | (go_simp; rfl)); intro gb141 hg w16 hbox hb; have n0_ := Aside0.mk (below_step (by repeat (first | (with_reducible first | exact HB.out | apply below_alloc | apply pw_below_drewN | apply below_drew1) | exact HB.out)) hb); have n1_ := Aside0.mk (hbox); have n2_ := Aside0.mk ((by rw [hg]; exact (below_size (by repeat (first | (with_reducible first | exact HB.out | apply below_alloc | apply pw_below_drewN | apply below_drew1) | exact HB.out))) : w.heap.size ≤ gb141)); have n3_ := n2_; clear HB; have HB := n0_; have BK141 := n1_; have GW141 := n2_; have GE141 := n3_; clear n0_ n1_ n2_ n3_; clear hb hbox hg; have hcz17_0 : w16.cell? ⟨gb141, 0, none⟩ = some (.slice A0_0 l0_0.length c0_0) := (blk_cell BK141.out 0).trans rfl; have hcz17_1 : w16.cell? ⟨gb141, 1, none⟩ = some (.slice A0_1 l0_1.length c0_1) := (blk_cell BK141.out 1).trans rfl; have hcz17_2 : w16.cell? ⟨gb141, 2, none⟩ = some (.slice A0_2 l0_2.length c0_2) := (blk_cell BK141.out 2).trans rfl; have hcz17_3 : w16.cell? ⟨gb141, 3, none⟩ = some (.slice A0_3 l0_3.length c0_3) := (blk_cell BK141.out 3).trans rfl; have hcz17_4 : w16.cell? ⟨gb141, 4, none⟩ = some (.slice A0_4 l0_4.length c0_4) := (blk_cell BK141.out 4).trans rfl; have hcz17_5 : w16.cell? ⟨gb141, 5, none⟩ = some (.slice A0_5 l0_5.length c0_5) := (blk_cell BK141.out 5).trans rfl; have hcz17_6 : w16.cell? ⟨gb141, 6, none⟩ = some (.slice A0_6 l0_6.length c0_6) := (blk_cell BK141.out 6).trans rfl; have hfz17_0 := blk_frozen BK141.out 0; have hfz17_1 := blk_frozen BK141.out 1; have hfz17_2 := blk_frozen BK141.out 2; have hfz17_3 := blk_frozen BK141.out 3; have hfz17_4 := blk_frozen BK141.out 4; have hfz17_5 := blk_frozen BK141.out 5; have hfz17_6 := blk_frozen BK141.out 6))
        go_ret
        exact ⟨by first | rfl | (simp [errW_none, errW_some] <;> rfl) | (simp [*, errW_none, errW_some] <;> rfl), by repeat (first | (with_reducible first | exact HB.out | apply below_alloc | apply pw_below_drewN | apply below_drew1 | refine below_set ?_ GE141.out) | exact HB.out)⟩
    · rw [if_neg c3] at H
      have c3b0 : decide ((l0_1.length : Int) ≤ 200) = false := decide_eq_false c3; have c3b1 : decide (l0_1.length ≤ 200) = false := decide_eq_false (by omega); clear c3
      obtain rfl := Option.some.inj H
      go_enter Try.func9, Try.ntmps9
      go_wp2_with (first | ((with_reducible refine gate_dst (N := 1) rfl ?_); (try (refine gate_guard (by rfl) ?_; dsimp only)); refine box_event ?hg (N := 1) ?hd (cs := #[.slice A0_0 l0_0.length c0_0, .slice A0_1 l0_1.length c0_1, .slice A0_2 l0_2.length c0_2, .slice A0_3 l0_3.length c0_3, .slice A0_4 l0_4.length c0_4, .slice A0_5 l0_5.length c0_5, .slice A0_6 l0_6.length c0_6]) (t := 28) ?hr ?_; (case hd => rfl); (case hg => rfl); (case hr => first | (go_simp; done) | (go_simp; rfl)); intro gb141 hg w18 hbox hb; have n0_ := Aside0.mk (below_step (by repeat (first | (with_reducible first | exact HB.out | apply below_alloc | apply pw_below_drewN | apply below_drew1) | exact HB.out)) hb); have n1_ := Aside0.mk (hbox); have n2_ := Aside0.mk ((by rw [hg]; exact (below_size (by repeat (first | (with_reducible first | exact HB.out | apply below_alloc | apply pw_below_drewN | apply below_drew1) | exact HB.out))) : w.heap.size ≤ gb141)); have n3_ := n2_; clear HB; have HB := n0_; have BK141 := n1_; have GW141 := n2_; have GE141 := n3_; clear n0_ n1_ n2_ n3_; clear hb hbox hg; have hcz19_0 : w18.cell? ⟨gb141, 0, none⟩ = some (.slice A0_0 l0_0.length c0_0) := (blk_cell BK141.out 0).trans rfl; have hcz19_1 : w18.cell? ⟨gb141, 1, none⟩ = some (.slice A0_1 l0_1.length c0_1) := (blk_cell BK141.out 1).trans rfl; have hcz19_2 : w18.cell? ⟨gb141, 2, none⟩ = some (.slice A0_2 l0_2.length c0_2) := (blk_cell BK141.out 2).trans rfl; have hcz19_3 : w18.cell? ⟨gb141, 3, none⟩ = some (.slice A0_3 l0_3.length c0_3) := (blk_cell BK141.out 3).trans rfl; have hcz19_4 : w18.cell? ⟨gb141, 4, none⟩ = some (.slice A0_4 l0_4.length c0_4) := (blk_cell BK141.out 4).trans rfl; have hcz19_5 : w18.cell? ⟨gb141, 5, none⟩ = some (.slice A0_5 l0_5.length c0_5) := (blk_cell BK141.out 5).trans rfl; have hcz19_6 : w18.cell? ⟨gb141, 6, none⟩ = some (.slice A0_6 l0_6.length c0_6) := (blk_cell BK141.out 6).trans rfl; have hfz19_0 := blk_frozen BK141.out 0; have hfz19_1 := blk_frozen BK141.out 1; have hfz19_2 := blk_frozen BK141.out 2; have hfz19_3 := blk_frozen BK141.out 3; have hfz19_4 := blk_frozen BK141.out 4; have hfz19_5 := blk_frozen BK141.out 5; have hfz19_6 := blk_frozen BK141.out 6))
      go_ret
      exact ⟨by first | rfl | (simp [errW_none, errW_some] <;> rfl) | (simp [*, errW_none, errW_some] <;> rfl), by repeat (first | (with_reducible first | exact HB.out | apply below_alloc | apply pw_below_drewN | apply below_drew1 | refine below_set ?_ GE141.out) | exact HB.out)⟩
  · rw [if_neg c2] at H
    have c2b0 : decide ((l0_0.length : Int) ≤ 200) = false := decide_eq_false c2; have c2b1 : decide (l0_0.length ≤ 200) = false := decide_eq_false (by omega); clear c2
    obtain rfl := Option.some.inj H
    go_enter Try.func9, Try.ntmps9
    go_wp2_with (first | ((with_reducible refine gate_dst (N := 1) rfl ?_); (try (refine gate_guard (by rfl) ?_; dsimp only)); refine box_event ?hg (N := 1) ?hd (cs := #[.slice A0_0 l0_0.length c0_0, .slice A0_1 l0_1.length c0_1, .slice A0_2 l0_2.length c0_2, .slice A0_3 l0_3.length c0_3, .slice A0_4 l0_4.length c0_4, .slice A0_5 l0_5.length c0_5, .slice A0_6 l0_6.length c0_6]) (t := 28) ?hr ?_; (case hd => rfl); (case hg => rfl); (case hr => first | (go_simp; done) | (go_simp; rfl)); intro gb141 hg w20 hbox hb; have n0_ := Aside0.mk (below_step (by repeat (first | (with_reducible first | exact HB.out | apply below_alloc | apply pw_below_drewN | apply below_drew1) | exact HB.out)) hb); have n1_ := Aside0.mk (hbox); have n2_ := Aside0.mk ((by rw [hg]; exact (below_size (by repeat (first | (with_reducible first | exact HB.out | apply below_alloc | apply pw_below_drewN | apply below_drew1) | exact HB.out))) : w.heap.size ≤ gb141)); have n3_ := n2_; clear HB; have HB := n0_; have BK141 := n1_; have GW141 := n2_; have GE141 := n3_; clear n0_ n1_ n2_ n3_; clear hb hbox hg; have hcz21_0 : w20.cell? ⟨gb141, 0, none⟩ = some (.slice A0_0 l0_0.length c0_0) := (blk_cell BK141.out 0).trans rfl; have hcz21_1 : w20.cell? ⟨gb141, 1, none⟩ = some (.slice A0_1 l0_1.length c0_1) := (blk_cell BK141.out 1).trans rfl; have hcz21_2 : w20.cell? ⟨gb141, 2, none⟩ = some (.slice A0_2 l0_2.length c0_2) := (blk_cell BK141.out 2).trans rfl; have hcz21_3 : w20.cell? ⟨gb141, 3, none⟩ = some (.slice A0_3 l0_3.length c0_3) := (blk_cell BK141.out 3).trans rfl; have hcz21_4 : w20.cell? ⟨gb141, 4, none⟩ = some (.slice A0_4 l0_4.length c0_4) := (blk_cell BK141.out 4).trans rfl; have hcz21_5 : w20.cell? ⟨gb141, 5, none⟩ = some (.slice A0_5 l0_5.length c0_5) := (blk_cell BK141.out 5).trans rfl; have hcz21_6 : w20.cell? ⟨gb141, 6, none⟩ = some (.slice A0_6 l0_6.length c0_6) := (blk_cell BK141.out 6).trans rfl; have hfz21_0 := blk_frozen BK141.out 0; have hfz21_1 := blk_frozen BK141.out 1; have hfz21_2 := blk_frozen BK141.out 2; have hfz21_3 := blk_frozen BK141.out 3; have hfz21_4 := blk_frozen BK141.out 4; have hfz21_5 := blk_frozen BK141.out 5; have hfz21_6 := blk_frozen BK141.out 6))
    go_ret
    exact ⟨by first | rfl | (simp [errW_none, errW_some] <;> rfl) | (simp [*, errW_none, errW_some] <;> rfl), by repeat (first | (with_reducible first | exact HB.out | apply below_alloc | apply pw_below_drewN | apply below_drew1 | refine below_set ?_ GE141.out) | exact HB.out)⟩

/-! ### zoneinforef15_Same: function 20 -/
def zoneinforef15_Same.l0 : Nat → List Int → List Int → Int → Option (Bool)
  | 0, _, _, _ => none
  | k + 1, x0, x1, x5 => if x5 < (x0.length : Int) then (if 0 ≤ x5 then (if x5 < (x1.length : Int) then (if (rd x0 x5) = (rd x1 x5) then (zoneinforef15_Same.l0 k x0 x1 (wrap64 (x5 + 1))) else (some false)) else (none)) else (none)) else (some true)
def zoneinforef15_Same.f (k : Nat) (l0 : List Int) (l1 : List Int) : Option (Bool) := if (l0.length : Int) = (l1.length : Int) then (zoneinforef15_Same.l0 k l0 l1 0) else (some false)
theorem zoneinforef15_Same.mono_l : ∀ k, (∀ y0 y1 y2, LeO (zoneinforef15_Same.l0 k y0 y1 y2) (zoneinforef15_Same.l0 (k + 1) y0 y1 y2))
  | 0 => fun _ _ _ r h => by simp [zoneinforef15_Same.l0] at h
  | k + 1 => by
    have ih0 := zoneinforef15_Same.mono_l k
    · intro y0 y1 y2
      unfold zoneinforef15_Same.l0
      repeat' first
      | (with_reducible exact ih0 _ _ _)
      | (with_reducible exact LeO.refl _)
      | (with_reducible exact LeO.none _)
      | (with_reducible refine LeO.ite ?_ ?_)
      | (with_reducible refine LeO.bind ?_ (fun _ => ?_))
      | exact ih0 _ _ _
      | exact LeO.none _
      | refine LeO.ite ?_ ?_
      | refine LeO.bind ?_ (fun _ => ?_)
theorem zoneinforef15_Same.mono : ∀ a0 a1 k, LeO (zoneinforef15_Same.f k a0 a1) (zoneinforef15_Same.f (k + 1) a0 a1) := by
  intro a0 a1 k; have ih0 := zoneinforef15_Same.mono_l k
  unfold zoneinforef15_Same.f
  repeat' first
      | (with_reducible exact ih0 _ _ _)
      | (with_reducible exact LeO.refl _)
      | (with_reducible exact LeO.none _)
      | (with_reducible refine LeO.ite ?_ ?_)
      | (with_reducible refine LeO.bind ?_ (fun _ => ?_))
      | exact ih0 _ _ _
      | exact LeO.none _
      | refine LeO.ite ?_ ?_
      | refine LeO.bind ?_ (fun _ => ?_)
set_option maxHeartbeats 8000000 in
set_option maxRecDepth 100000 in
theorem zoneinforef15_Same.calls (k : Nat) (A0 : Option Addr) (c0 : Nat) (l0 : List Int) (A1 : Option Addr) (c1 : Nat) (l1 : List Int) (r : Bool) (w : World) (hr0 : Kd.C (Kd.int .i64) w A0 l0.length l0) (hc0 : l0.length ≤ c0) (hr1 : Kd.C (Kd.int .i64) w A1 l1.length l1) (hc1 : l1.length ≤ c1) (h : zoneinforef15_Same.f k l0 l1 = some r) :
    Calls Try.prog 20 #[.slice A0 l0.length c0, .slice A1 l1.length c1] w fun e w' => e = .returned (.bool r) ∧ Drawn0 w w' := by
  have HR0 := Aside0.mk hr0; have HC0 := Aside0.mk hc0; clear hr0 hc0; have HR1 := Aside0.mk hr1; have HC1 := Aside0.mk hc1; clear hr1 hc1; have H : (if (l0.length : Int) = (l1.length : Int) then (zoneinforef15_Same.l0 k l0 l1 0) else (some false)) = some r := h; clear h
  by_cases c3 : (l0.length : Int) = (l1.length : Int)
  · rw [if_pos c3] at H
    have c3b0 : ((l0.length : Int) == (l1.length : Int)) = true := beq_iff_eq.mpr c3; have c3b1 : ((l0.length : Int) != (l1.length : Int)) = false := bne_eq_false_iff_eq.mpr c3
    have c3b2 : (l0.length == l1.length) = true := by first | simpa using c3 | (simp at c3 ⊢; omega)
    clear c3; have H' := Aside0.mk H; clear H
    go_enter Try.func20, Try.ntmps20
    go_wp2
    repeat (go_quiet (fail); try go_wp2)
    go_loopg [5] k (fun kq v5 w' => ∃ (x5_1 : Int), v5 = .int .i64 x5_1 ∧ Aside0 (zoneinforef15_Same.l0 kq l0 l1 x5_1 = some r) ∧ Aside0 (kq ≤ k) ∧ Drawn0 w w')
    case atStart => exact ⟨(0), (by first | rfl | (simp; done) | (simp [*]; done)), H', ⟨Nat.le_refl _⟩, by repeat (first | exact Drawn0.refl _ | apply Drawn0.step)⟩
    case round =>
      clear H'; (try clear c1); (try clear c2); (try clear p2); (try clear c3); (try clear c3b0); (try clear c3b1); (try clear c3b2); obtain ⟨x5_1, rfl, HA, HK1, ⟨m1, rfl⟩⟩ := hrel
      cases gk with
      | zero => exact absurd HA.out (by simp [zoneinforef15_Same.l0])
      | succ k1 =>
        have H := HA.out; clear HA
        simp only [zoneinforef15_Same.l0] at H
        by_cases c4 : x5_1 < (l0.length : Int)
        · rw [if_pos c4] at H
          have c4b0 : decide (x5_1 < (l0.length : Int)) = true := decide_eq_true c4; clear c4
          by_cases c5 : 0 ≤ x5_1
          · rw [if_pos c5] at H
            have c5b0 : decide (0 ≤ x5_1) = true := decide_eq_true c5; clear c5
            by_cases c6 : x5_1 < (l1.length : Int)
            · rw [if_pos c6] at H
              have c6b0 : decide (x5_1 < (l1.length : Int)) = true := decide_eq_true c6; clear c6
              by_cases c7 : (rd l0 x5_1) = (rd l1 x5_1)
              · rw [if_pos c7] at H
                have c7b0 : ((rd l0 x5_1) == (rd l1 x5_1)) = true := beq_iff_eq.mpr c7; have c7b1 : ((rd l0 x5_1) != (rd l1 x5_1)) = false := bne_eq_false_iff_eq.mpr c7; clear c7; have H' := Aside0.mk H; clear H; have p142 : 0 ≤ (x5_1 : Int) := of_decide_eq_true (by first | (with_reducible assumption) | assumption); have q142 : x5_1 < (l0.length : Int) := of_decide_eq_true (by first | (with_reducible assumption) | assumption); obtain ⟨ad142, e142, hx142_0⟩ := Kd.at_int HR0.out x5_1 p142 q142
                cases e142
                replace p142 := eq_true p142; replace q142 := eq_true q142; have p143 : 0 ≤ (x5_1 : Int) := of_decide_eq_true (by first | (with_reducible assumption) | assumption); have q143 : x5_1 < (l1.length : Int) := of_decide_eq_true (by first | (with_reducible assumption) | assumption); obtain ⟨ad143, e143, hx143_0⟩ := Kd.at_int HR1.out x5_1 p143 q143
                cases e143
                replace p143 := eq_true p143; replace q143 := eq_true q143; go_wp2
                repeat (go_quiet (fail); try go_wp2)
                go_roundg k1
                case measure => have := HK1.out; omega
                case rel => exact ⟨(wrap64 (x5_1 + 1)), (by first | rfl | (simp; done) | (simp [*]; done)), H', ⟨by have := HK1.out; omega⟩, by repeat (first | exact Drawn0.refl _ | apply Drawn0.step)⟩
              · rw [if_neg c7] at H
                have c7b0 : ((rd l0 x5_1) == (rd l1 x5_1)) = false := beq_eq_false_iff_ne.mpr c7; have c7b1 : ((rd l0 x5_1) != (rd l1 x5_1)) = true := bne_iff_ne.mpr c7
                obtain rfl := Option.some.inj H
                have p142 : 0 ≤ (x5_1 : Int) := of_decide_eq_true (by first | (with_reducible assumption) | assumption); have q142 : x5_1 < (l0.length : Int) := of_decide_eq_true (by first | (with_reducible assumption) | assumption); obtain ⟨ad142, e142, hx142_0⟩ := Kd.at_int HR0.out x5_1 p142 q142
                cases e142
                replace p142 := eq_true p142; replace q142 := eq_true q142; have p143 : 0 ≤ (x5_1 : Int) := of_decide_eq_true (by first | (with_reducible assumption) | assumption); have q143 : x5_1 < (l1.length : Int) := of_decide_eq_true (by first | (with_reducible assumption) | assumption); obtain ⟨ad143, e143, hx143_0⟩ := Kd.at_int HR1.out x5_1 p143 q143
                cases e143
                replace p143 := eq_true p143; replace q143 := eq_true q143; go_wp2
                repeat (go_quiet (fail); try go_wp2)
                go_ret
                exact ⟨by first | rfl | (simp; done) | (simp [*]; done), by repeat (first | exact Drawn0.refl _ | apply Drawn0.step)⟩
            · rw [if_neg c6] at H
              exact absurd H (by simp)
          · rw [if_neg c5] at H
            exact absurd H (by simp)
        · rw [if_neg c4] at H
          have c4b0 : decide (x5_1 < (l0.length : Int)) = false := decide_eq_false c4; clear c4
          obtain rfl := Option.some.inj H
          go_wp2
          repeat (go_quiet (fail); try go_wp2)
          go_ret
          exact ⟨by first | rfl | (simp; done) | (simp [*]; done), by repeat (first | exact Drawn0.refl _ | apply Drawn0.step)⟩
  · rw [if_neg c3] at H
    have c3b0 : ((l0.length : Int) == (l1.length : Int)) = false := beq_eq_false_iff_ne.mpr c3; have c3b1 : ((l0.length : Int) != (l1.length : Int)) = true := bne_iff_ne.mpr c3
    have c3b2 : (l0.length == l1.length) = false := by first | simpa using c3 | (simp at c3 ⊢; omega)
    obtain rfl := Option.some.inj H
    go_enter Try.func20, Try.ntmps20
    go_wp2
    repeat (go_quiet (fail); try go_wp2)
    go_ret
    exact ⟨by first | rfl | (simp; done) | (simp [*]; done), by repeat (first | exact Drawn0.refl _ | apply Drawn0.step)⟩

/-! ### zoneinforef01_Same: function 26 -/
def zoneinforef01_Same.l0 : Nat → List Int → List Int → Int → Option (Bool)
  | 0, _, _, _ => none
  | k + 1, x0, x1, x5 => if x5 < (x0.length : Int) then (if 0 ≤ x5 then (if x5 < (x1.length : Int) then (if (rd x0 x5) = (rd x1 x5) then (zoneinforef01_Same.l0 k x0 x1 (wrap64 (x5 + 1))) else (some false)) else (none)) else (none)) else (some true)
def zoneinforef01_Same.f (k : Nat) (l0 : List Int) (l1 : List Int) : Option (Bool) := if (l0.length : Int) = (l1.length : Int) then (zoneinforef01_Same.l0 k l0 l1 0) else (some false)
theorem zoneinforef01_Same.mono_l : ∀ k, (∀ y0 y1 y2, LeO (zoneinforef01_Same.l0 k y0 y1 y2) (zoneinforef01_Same.l0 (k + 1) y0 y1 y2))
  | 0 => fun _ _ _ r h => by simp [zoneinforef01_Same.l0] at h
  | k + 1 => by
    have ih0 := zoneinforef01_Same.mono_l k
    · intro y0 y1 y2
      unfold zoneinforef01_Same.l0
      repeat' first
      | (with_reducible exact ih0 _ _ _)
      | (with_reducible exact LeO.refl _)
      | (with_reducible exact LeO.none _)
      | (with_reducible refine LeO.ite ?_ ?_)
      | (with_reducible refine LeO.bind ?_ (fun _ => ?_))
      | exact ih0 _ _ _
      | exact LeO.none _
      | refine LeO.ite ?_ ?_
      | refine LeO.bind ?_ (fun _ => ?_)
theorem zoneinforef01_Same.mono : ∀ a0 a1 k, LeO (zoneinforef01_Same.f k a0 a1) (zoneinforef01_Same.f (k + 1) a0 a1) := by
  intro a0 a1 k; have ih0 := zoneinforef01_Same.mono_l k
  unfold zoneinforef01_Same.f
  repeat' first
      | (with_reducible exact ih0 _ _ _)
      | (with_reducible exact LeO.refl _)
      | (with_reducible exact LeO.none _)
      | (with_reducible refine LeO.ite ?_ ?_)
      | (with_reducible refine LeO.bind ?_ (fun _ => ?_))
      | exact ih0 _ _ _
      | exact LeO.none _
      | refine LeO.ite ?_ ?_
      | refine LeO.bind ?_ (fun _ => ?_)
set_option maxHeartbeats 8000000 in
set_option maxRecDepth 100000 in
theorem zoneinforef01_Same.calls (k : Nat) (A0 : Option Addr) (c0 : Nat) (l0 : List Int) (A1 : Option Addr) (c1 : Nat) (l1 : List Int) (r : Bool) (w : World) (hr0 : Kd.C (Kd.int .u8) w A0 l0.length l0) (hc0 : l0.length ≤ c0) (hr1 : Kd.C (Kd.int .u8) w A1 l1.length l1) (hc1 : l1.length ≤ c1) (h : zoneinforef01_Same.f k l0 l1 = some r) :
    Calls Try.prog 26 #[.slice A0 l0.length c0, .slice A1 l1.length c1] w fun e w' => e = .returned (.bool r) ∧ Drawn0 w w' := by
  have HR0 := Aside0.mk hr0; have HC0 := Aside0.mk hc0; clear hr0 hc0; have HR1 := Aside0.mk hr1; have HC1 := Aside0.mk hc1; clear hr1 hc1; have H : (if (l0.length : Int) = (l1.length : Int) then (zoneinforef01_Same.l0 k l0 l1 0) else (some false)) = some r := h; clear h
  by_cases c3 : (l0.length : Int) = (l1.length : Int)
  · rw [if_pos c3] at H
    have c3b0 : ((l0.length : Int) == (l1.length : Int)) = true := beq_iff_eq.mpr c3; have c3b1 : ((l0.length : Int) != (l1.length : Int)) = false := bne_eq_false_iff_eq.mpr c3
    have c3b2 : (l0.length == l1.length) = true := by first | simpa using c3 | (simp at c3 ⊢; omega)
    clear c3; have H' := Aside0.mk H; clear H
    go_enter Try.func26, Try.ntmps26
    go_wp2
    repeat (go_quiet (fail); try go_wp2)
    go_loopg [5] k (fun kq v5 w' => ∃ (x5_1 : Int), v5 = .int .i64 x5_1 ∧ Aside0 (zoneinforef01_Same.l0 kq l0 l1 x5_1 = some r) ∧ Aside0 (kq ≤ k) ∧ Drawn0 w w')
    case atStart => exact ⟨(0), (by first | rfl | (simp; done) | (simp [*]; done)), H', ⟨Nat.le_refl _⟩, by repeat (first | exact Drawn0.refl _ | apply Drawn0.step)⟩
    case round =>
      clear H'; (try clear c1); (try clear c2); (try clear p2); (try clear c3); (try clear c3b0); (try clear c3b1); (try clear c3b2); obtain ⟨x5_1, rfl, HA, HK1, ⟨m1, rfl⟩⟩ := hrel
      cases gk with
      | zero => exact absurd HA.out (by simp [zoneinforef01_Same.l0])
      | succ k1 =>
        have H := HA.out; clear HA
        simp only [zoneinforef01_Same.l0] at H
        by_cases c4 : x5_1 < (l0.length : Int)
        · rw [if_pos c4] at H
          have c4b0 : decide (x5_1 < (l0.length : Int)) = true := decide_eq_true c4; clear c4
          by_cases c5 : 0 ≤ x5_1
          · rw [if_pos c5] at H
            have c5b0 : decide (0 ≤ x5_1) = true := decide_eq_true c5; clear c5
            by_cases c6 : x5_1 < (l1.length : Int)
            · rw [if_pos c6] at H
              have c6b0 : decide (x5_1 < (l1.length : Int)) = true := decide_eq_true c6; clear c6
              by_cases c7 : (rd l0 x5_1) = (rd l1 x5_1)
              · rw [if_pos c7] at H
                have c7b0 : ((rd l0 x5_1) == (rd l1 x5_1)) = true := beq_iff_eq.mpr c7; have c7b1 : ((rd l0 x5_1) != (rd l1 x5_1)) = false := bne_eq_false_iff_eq.mpr c7; clear c7; have H' := Aside0.mk H; clear H; have p144 : 0 ≤ (x5_1 : Int) := of_decide_eq_true (by first | (with_reducible assumption) | assumption); have q144 : x5_1 < (l0.length : Int) := of_decide_eq_true (by first | (with_reducible assumption) | assumption); obtain ⟨ad144, e144, hx144_0⟩ := Kd.at_int HR0.out x5_1 p144 q144
                cases e144
                replace p144 := eq_true p144; replace q144 := eq_true q144; have p145 : 0 ≤ (x5_1 : Int) := of_decide_eq_true (by first | (with_reducible assumption) | assumption); have q145 : x5_1 < (l1.length : Int) := of_decide_eq_true (by first | (with_reducible assumption) | assumption); obtain ⟨ad145, e145, hx145_0⟩ := Kd.at_int HR1.out x5_1 p145 q145
                cases e145
                replace p145 := eq_true p145; replace q145 := eq_true q145; go_wp2
                repeat (go_quiet (fail); try go_wp2)
                go_roundg k1
                case measure => have := HK1.out; omega
                case rel => exact ⟨(wrap64 (x5_1 + 1)), (by first | rfl | (simp; done) | (simp [*]; done)), H', ⟨by have := HK1.out; omega⟩, by repeat (first | exact Drawn0.refl _ | apply Drawn0.step)⟩
              · rw [if_neg c7] at H
                have c7b0 : ((rd l0 x5_1) == (rd l1 x5_1)) = false := beq_eq_false_iff_ne.mpr c7; have c7b1 : ((rd l0 x5_1) != (rd l1 x5_1)) = true := bne_iff_ne.mpr c7
                obtain rfl := Option.some.inj H
                have p144 : 0 ≤ (x5_1 : Int) := of_decide_eq_true (by first | (with_reducible assumption) | assumption); have q144 : x5_1 < (l0.length : Int) := of_decide_eq_true (by first | (with_reducible assumption) | assumption); obtain ⟨ad144, e144, hx144_0⟩ := Kd.at_int HR0.out x5_1 p144 q144
                cases e144
                replace p144 := eq_true p144; replace q144 := eq_true q144; have p145 : 0 ≤ (x5_1 : Int) := of_decide_eq_true (by first | (with_reducible assumption) | assumption); have q145 : x5_1 < (l1.length : Int) := of_decide_eq_true (by first | (with_reducible assumption) | assumption); obtain ⟨ad145, e145, hx145_0⟩ := Kd.at_int HR1.out x5_1 p145 q145
                cases e145
                replace p145 := eq_true p145; replace q145 := eq_true q145; go_wp2
                repeat (go_quiet (fail); try go_wp2)
                go_ret
                exact ⟨by first | rfl | (simp; done) | (simp [*]; done), by repeat (first | exact Drawn0.refl _ | apply Drawn0.step)⟩
            · rw [if_neg c6] at H
              exact absurd H (by simp)
          · rw [if_neg c5] at H
            exact absurd H (by simp)
        · rw [if_neg c4] at H
          have c4b0 : decide (x5_1 < (l0.length : Int)) = false := decide_eq_false c4; clear c4
          obtain rfl := Option.some.inj H
          go_wp2
          repeat (go_quiet (fail); try go_wp2)
          go_ret
          exact ⟨by first | rfl | (simp; done) | (simp [*]; done), by repeat (first | exact Drawn0.refl _ | apply Drawn0.step)⟩
  · rw [if_neg c3] at H
    have c3b0 : ((l0.length : Int) == (l1.length : Int)) = false := beq_eq_false_iff_ne.mpr c3; have c3b1 : ((l0.length : Int) != (l1.length : Int)) = true := bne_iff_ne.mpr c3
    have c3b2 : (l0.length == l1.length) = false := by first | simpa using c3 | (simp at c3 ⊢; omega)
    obtain rfl := Option.some.inj H
    go_enter Try.func26, Try.ntmps26
    go_wp2
    repeat (go_quiet (fail); try go_wp2)
    go_ret
    exact ⟨by first | rfl | (simp; done) | (simp [*]; done), by repeat (first | exact Drawn0.refl _ | apply Drawn0.step)⟩

/-! ### zoneinforef16_Same: function 27 -/
def zoneinforef16_Same.l0 : Nat → List (S38) → List (S38) → Int → Option (Bool)
  | 0, _, _, _ => none
  | k + 1, x0, x1, x5 => if x5 < (x0.length : Int) then (if 0 ≤ x5 then (if x5 < (x1.length : Int) then (if (!(((rd_T38 x0 x5).f0) == ((rd_T38 x1 x5).f0)) || (!(((rd_T38 x0 x5).f1) == ((rd_T38 x1 x5).f1)) || (!(((rd_T38 x0 x5).f2) == ((rd_T38 x1 x5).f2))))) = true then (some false) else (zoneinforef16_Same.l0 k x0 x1 (wrap64 (x5 + 1)))) else (none)) else (none)) else (some true)
def zoneinforef16_Same.f (k : Nat) (l0 : List (S38)) (l1 : List (S38)) : Option (Bool) := if (l0.length : Int) = (l1.length : Int) then (zoneinforef16_Same.l0 k l0 l1 0) else (some false)
theorem zoneinforef16_Same.mono_l : ∀ k, (∀ y0 y1 y2, LeO (zoneinforef16_Same.l0 k y0 y1 y2) (zoneinforef16_Same.l0 (k + 1) y0 y1 y2))
  | 0 => fun _ _ _ r h => by simp [zoneinforef16_Same.l0] at h
  | k + 1 => by
    have ih0 := zoneinforef16_Same.mono_l k
    · intro y0 y1 y2
      unfold zoneinforef16_Same.l0
      repeat' first
      | (with_reducible exact ih0 _ _ _)
      | (with_reducible exact LeO.refl _)
      | (with_reducible exact LeO.none _)
      | (with_reducible refine LeO.ite ?_ ?_)
      | (with_reducible refine LeO.bind ?_ (fun _ => ?_))
      | exact ih0 _ _ _
      | exact LeO.none _
      | refine LeO.ite ?_ ?_
      | refine LeO.bind ?_ (fun _ => ?_)
theorem zoneinforef16_Same.mono : ∀ a0 a1 k, LeO (zoneinforef16_Same.f k a0 a1) (zoneinforef16_Same.f (k + 1) a0 a1) := by
  intro a0 a1 k; have ih0 := zoneinforef16_Same.mono_l k
  unfold zoneinforef16_Same.f
  repeat' first
      | (with_reducible exact ih0 _ _ _)
      | (with_reducible exact LeO.refl _)
      | (with_reducible exact LeO.none _)
      | (with_reducible refine LeO.ite ?_ ?_)
      | (with_reducible refine LeO.bind ?_ (fun _ => ?_))
      | exact ih0 _ _ _
      | exact LeO.none _
      | refine LeO.ite ?_ ?_
      | refine LeO.bind ?_ (fun _ => ?_)
set_option maxHeartbeats 8000000 in
set_option maxRecDepth 100000 in
theorem zoneinforef16_Same.calls (k : Nat) (A0 : Option Addr) (c0 : Nat) (l0 : List (S38)) (A1 : Option Addr) (c1 : Nat) (l1 : List (S38)) (r : Bool) (w : World) (hr0 : Kd.C k38 w A0 l0.length l0) (hc0 : l0.length ≤ c0) (hr1 : Kd.C k38 w A1 l1.length l1) (hc1 : l1.length ≤ c1) (h : zoneinforef16_Same.f k l0 l1 = some r) :
    Calls Try.prog 27 #[.slice A0 l0.length c0, .slice A1 l1.length c1] w fun e w' => e = .returned (.bool r) ∧ Drawn0 w w' := by
  have hu38 := Try.underlying38; have HR0 := Aside0.mk hr0; have HC0 := Aside0.mk hc0; clear hr0 hc0; have HR1 := Aside0.mk hr1; have HC1 := Aside0.mk hc1; clear hr1 hc1; have H : (if (l0.length : Int) = (l1.length : Int) then (zoneinforef16_Same.l0 k l0 l1 0) else (some false)) = some r := h; clear h
  by_cases c3 : (l0.length : Int) = (l1.length : Int)
  · rw [if_pos c3] at H
    have c3b0 : ((l0.length : Int) == (l1.length : Int)) = true := beq_iff_eq.mpr c3; have c3b1 : ((l0.length : Int) != (l1.length : Int)) = false := bne_eq_false_iff_eq.mpr c3
    have c3b2 : (l0.length == l1.length) = true := by first | simpa using c3 | (simp at c3 ⊢; omega)
    clear c3; have H' := Aside0.mk H; clear H
    go_enter Try.func27, Try.ntmps27
    go_wp2
    repeat (go_quiet (fail); try go_wp2)
    go_loopg [5] k (fun kq v5 w' => ∃ (x5_1 : Int), v5 = .int .i64 x5_1 ∧ Aside0 (zoneinforef16_Same.l0 kq l0 l1 x5_1 = some r) ∧ Aside0 (kq ≤ k) ∧ Drawn0 w w')
    case atStart => exact ⟨(0), (by first | rfl | (simp; done) | (simp [*]; done)), H', ⟨Nat.le_refl _⟩, by repeat (first | exact Drawn0.refl _ | apply Drawn0.step)⟩
    case round =>
      clear H'; (try clear c1); (try clear c2); (try clear p2); (try clear c3); (try clear c3b0); (try clear c3b1); (try clear c3b2); obtain ⟨x5_1, rfl, HA, HK1, ⟨m1, rfl⟩⟩ := hrel
      cases gk with
      | zero => exact absurd HA.out (by simp [zoneinforef16_Same.l0])
      | succ k1 =>
        have H := HA.out; clear HA
        simp only [zoneinforef16_Same.l0] at H
        by_cases c4 : x5_1 < (l0.length : Int)
        · rw [if_pos c4] at H
          have c4b0 : decide (x5_1 < (l0.length : Int)) = true := decide_eq_true c4; clear c4
          by_cases c5 : 0 ≤ x5_1
          · rw [if_pos c5] at H
            have c5b0 : decide (0 ≤ x5_1) = true := decide_eq_true c5; clear c5
            by_cases c6 : x5_1 < (l1.length : Int)
            · rw [if_pos c6] at H
              have c6b0 : decide (x5_1 < (l1.length : Int)) = true := decide_eq_true c6; clear c6
              by_cases c7 : (!(((rd_T38 l0 x5_1).f0) == ((rd_T38 l1 x5_1).f0)) || (!(((rd_T38 l0 x5_1).f1) == ((rd_T38 l1 x5_1).f1)) || (!(((rd_T38 l0 x5_1).f2) == ((rd_T38 l1 x5_1).f2))))) = true
              · rw [if_pos c7] at H
                have c7b0 : (!(((rd_T38 l0 x5_1).f0) == ((rd_T38 l1 x5_1).f0)) || (!(((rd_T38 l0 x5_1).f1) == ((rd_T38 l1 x5_1).f1)) || (!(((rd_T38 l0 x5_1).f2) == ((rd_T38 l1 x5_1).f2))))) = true := c7; clear c7
                obtain rfl := Option.some.inj H
                have p146 : 0 ≤ (x5_1 : Int) := of_decide_eq_true (by first | (with_reducible assumption) | assumption); have q146 : x5_1 < (l0.length : Int) := of_decide_eq_true (by first | (with_reducible assumption) | assumption); obtain ⟨ad146, e146, hx146_0, hx146_1, hx146_2⟩ := at_T38 HR0.out x5_1 p146 q146
                cases e146
                replace p146 := eq_true p146; replace q146 := eq_true q146; have p147 : 0 ≤ (x5_1 : Int) := of_decide_eq_true (by first | (with_reducible assumption) | assumption); have q147 : x5_1 < (l1.length : Int) := of_decide_eq_true (by first | (with_reducible assumption) | assumption); obtain ⟨ad147, e147, hx147_0, hx147_1, hx147_2⟩ := at_T38 HR1.out x5_1 p147 q147
                cases e147
                replace p147 := eq_true p147; replace q147 := eq_true q147; go_wp2
                repeat (go_quiet (fail); try go_wp2)
                go_ret
                exact ⟨by first | rfl | (simp; done) | (simp [*]; done), by repeat (first | exact Drawn0.refl _ | apply Drawn0.step)⟩
              · rw [if_neg c7] at H
                have c7b0 : (!(((rd_T38 l0 x5_1).f0) == ((rd_T38 l1 x5_1).f0)) || (!(((rd_T38 l0 x5_1).f1) == ((rd_T38 l1 x5_1).f1)) || (!(((rd_T38 l0 x5_1).f2) == ((rd_T38 l1 x5_1).f2))))) = false := by simpa using c7
                clear c7; have H' := Aside0.mk H; clear H; have p146 : 0 ≤ (x5_1 : Int) := of_decide_eq_true (by first | (with_reducible assumption) | assumption); have q146 : x5_1 < (l0.length : Int) := of_decide_eq_true (by first | (with_reducible assumption) | assumption); obtain ⟨ad146, e146, hx146_0, hx146_1, hx146_2⟩ := at_T38 HR0.out x5_1 p146 q146
                cases e146
                replace p146 := eq_true p146; replace q146 := eq_true q146; have p147 : 0 ≤ (x5_1 : Int) := of_decide_eq_true (by first | (with_reducible assumption) | assumption); have q147 : x5_1 < (l1.length : Int) := of_decide_eq_true (by first | (with_reducible assumption) | assumption); obtain ⟨ad147, e147, hx147_0, hx147_1, hx147_2⟩ := at_T38 HR1.out x5_1 p147 q147
                cases e147
                replace p147 := eq_true p147; replace q147 := eq_true q147; go_wp2
                repeat (go_quiet (fail); try go_wp2)
                go_roundg k1
                case measure => have := HK1.out; omega
                case rel => exact ⟨(wrap64 (x5_1 + 1)), (by first | rfl | (simp; done) | (simp [*]; done)), H', ⟨by have := HK1.out; omega⟩, by repeat (first | exact Drawn0.refl _ | apply Drawn0.step)⟩
            · rw [if_neg c6] at H
              exact absurd H (by simp)
          · rw [if_neg c5] at H
            exact absurd H (by simp)
        · rw [if_neg c4] at H
          have c4b0 : decide (x5_1 < (l0.length : Int)) = false := decide_eq_false c4; clear c4
          obtain rfl := Option.some.inj H
          go_wp2
          repeat (go_quiet (fail); try go_wp2)
          go_ret
          exact ⟨by first | rfl | (simp; done) | (simp [*]; done), by repeat (first | exact Drawn0.refl _ | apply Drawn0.step)⟩
  · rw [if_neg c3] at H
    have c3b0 : ((l0.length : Int) == (l1.length : Int)) = false := beq_eq_false_iff_ne.mpr c3; have c3b1 : ((l0.length : Int) != (l1.length : Int)) = true := bne_iff_ne.mpr c3
    have c3b2 : (l0.length == l1.length) = false := by first | simpa using c3 | (simp at c3 ⊢; omega)
    obtain rfl := Option.some.inj H
    go_enter Try.func27, Try.ntmps27
    go_wp2
    repeat (go_quiet (fail); try go_wp2)
    go_ret
    exact ⟨by first | rfl | (simp; done) | (simp [*]; done), by repeat (first | exact Drawn0.refl _ | apply Drawn0.step)⟩

end Go.Proofs.Ytfomlahadnihhaa.G
