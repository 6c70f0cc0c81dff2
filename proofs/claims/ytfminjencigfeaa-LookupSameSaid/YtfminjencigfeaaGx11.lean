/- Written by a program of this session for this seat: contracts of the functions that its laws reach, or the row of a law over its plain part. -/
import Derived.Test.YtfminjencigfeaaGx0
import Derived.Test.YtfminjencigfeaaGx7
import Derived.Test.YtfminjencigfeaaGx8
import Derived.Test.YtfminjencigfeaaGx9
import Derived.Test.YtfminjencigfeaaGx10
namespace Go.Proofs.Ytfminjencigfeaa.G
open Go.RowKit Go.Proofs.YtfminjencigfeaaW.PrintWords Go.Proofs.YtfminjencigfeaaW.PrintLast Go.Proofs.YtfminjencigfeaaW.PrintMore
attribute [local go_sem] max2_int min2_int max_two min_two max_three min_three max_four min_four   -- for this text's walks alone
set_option linter.unusedVariables false
set_option linter.unusedSimpArgs false

/-! ### zoneinforef20_Block: function 22 -/
mutual
def zoneinforef20_Block.j0 : Nat → Int → Int → Int → Bool → List Int → List Int → List (S42) → List Int → List (S55) → List Bool → List Bool → Option (Int)
  | 0, _, _, _, _, _, _, _, _, _, _, _ => none
  | k + 1, x1, x2, x7, x56, x196000, x196001, x196002, x196003, x196004, x196005, x196006 => if x56 = true then (some 6) else ((zoneinforef15_Fit.f k x196000 x2).bind fun t196 => (if t196 = true then (zoneinforef20_Block.l0 k x1 x2 x7 0 x196000 x196001 x196002 x196003 x196004 x196005 x196006) else (some 18)))
def zoneinforef20_Block.l0 : Nat → Int → Int → Int → Int → List Int → List Int → List (S42) → List Int → List (S55) → List Bool → List Bool → Option (Int)
  | 0, _, _, _, _, _, _, _, _, _, _, _ => none
  | k + 1, x1, x2, x7, x8, x196000, x196001, x196002, x196003, x196004, x196005, x196006 => if x8 < (x196004.length : Int) then (if 0 ≤ x8 then ((zoneinforef01_Fits.f k ((rd_T55 x196004 x8).f0) x2).bind fun t198 => (if t198 = true then (zoneinforef20_Block.l0 k x1 x2 x7 (wrap64 (x8 + 1)) x196000 x196001 x196002 x196003 x196004 x196005 x196006) else (some 18))) else (none)) else ((zoneinforef15_Descent.f k x196000).bind fun t199 => (if t199 = (-1) then (zoneinforef20_Block.l1 k x1 x7 0 x196000 x196001 x196002 x196003 x196004 x196005 x196006) else (some 7)))
def zoneinforef20_Block.l1 : Nat → Int → Int → Int → List Int → List Int → List (S42) → List Int → List (S55) → List Bool → List Bool → Option (Int)
  | 0, _, _, _, _, _, _, _, _, _, _ => none
  | k + 1, x1, x7, x9, x196000, x196001, x196002, x196003, x196004, x196005, x196006 => if x9 < (x196001.length : Int) then (if 0 ≤ x9 then (if (wrap64 (rd x196001 x9)) ≥ x7 then (some 8) else (zoneinforef20_Block.l1 k x1 x7 (wrap64 (x9 + 1)) x196000 x196001 x196002 x196003 x196004 x196005 x196006)) else (none)) else ((zoneinforef16_Check.f k x196002 (x196003.length : Int)).bind fun t201 => (if t201 = 0 then ((zoneinforef12_Valid.f k x196003).bind fun t202 => (if t202 = true then ((zoneinforef17_Valid.f k x196004 x1).bind fun t203 => (if t203 = true then ((zoneinforef18_Consistent.f k x196005 x196006).bind fun t204 => (if t204 = true then (some 0) else (some 13))) else (some 12))) else (some 11))) else (some t201)))
end
def zoneinforef20_Block.f (k : Nat) (l0_0 : List Int) (l0_1 : List Int) (l0_2 : List (S42)) (l0_3 : List Int) (l0_4 : List (S55)) (l0_5 : List Bool) (l0_6 : List Bool) (a1 : Int) (a2 : Int) : Option (Int) := if (l0_1.length : Int) = (l0_0.length : Int) then (if (l0_2.length : Int) = 0 then (zoneinforef20_Block.j0 k a1 a2 (l0_2.length : Int) true l0_0 l0_1 l0_2 l0_3 l0_4 l0_5 l0_6) else (if (l0_3.length : Int) = 0 then (zoneinforef20_Block.j0 k a1 a2 (l0_2.length : Int) true l0_0 l0_1 l0_2 l0_3 l0_4 l0_5 l0_6) else (if (l0_5.length : Int) = 0 then (if (l0_6.length : Int) = 0 then (zoneinforef20_Block.j0 k a1 a2 (l0_2.length : Int) false l0_0 l0_1 l0_2 l0_3 l0_4 l0_5 l0_6) else (zoneinforef20_Block.j0 k a1 a2 (l0_2.length : Int) ((l0_6.length : Int) != (l0_2.length : Int)) l0_0 l0_1 l0_2 l0_3 l0_4 l0_5 l0_6)) else (if (l0_5.length : Int) = (l0_2.length : Int) then (if (l0_6.length : Int) = 0 then (zoneinforef20_Block.j0 k a1 a2 (l0_2.length : Int) false l0_0 l0_1 l0_2 l0_3 l0_4 l0_5 l0_6) else (zoneinforef20_Block.j0 k a1 a2 (l0_2.length : Int) ((l0_6.length : Int) != (l0_2.length : Int)) l0_0 l0_1 l0_2 l0_3 l0_4 l0_5 l0_6)) else (zoneinforef20_Block.j0 k a1 a2 (l0_2.length : Int) true l0_0 l0_1 l0_2 l0_3 l0_4 l0_5 l0_6))))) else (zoneinforef20_Block.j0 k a1 a2 (l0_2.length : Int) true l0_0 l0_1 l0_2 l0_3 l0_4 l0_5 l0_6)
theorem zoneinforef20_Block.mono_l : ∀ k, (∀ y0 y1 y2 y3 y4 y5 y6 y7 y8 y9 y10, LeO (zoneinforef20_Block.j0 k y0 y1 y2 y3 y4 y5 y6 y7 y8 y9 y10) (zoneinforef20_Block.j0 (k + 1) y0 y1 y2 y3 y4 y5 y6 y7 y8 y9 y10)) ∧ (∀ y0 y1 y2 y3 y4 y5 y6 y7 y8 y9 y10, LeO (zoneinforef20_Block.l0 k y0 y1 y2 y3 y4 y5 y6 y7 y8 y9 y10) (zoneinforef20_Block.l0 (k + 1) y0 y1 y2 y3 y4 y5 y6 y7 y8 y9 y10)) ∧ (∀ y0 y1 y2 y3 y4 y5 y6 y7 y8 y9, LeO (zoneinforef20_Block.l1 k y0 y1 y2 y3 y4 y5 y6 y7 y8 y9) (zoneinforef20_Block.l1 (k + 1) y0 y1 y2 y3 y4 y5 y6 y7 y8 y9))
  | 0 => ⟨fun _ _ _ _ _ _ _ _ _ _ _ r h => by simp [zoneinforef20_Block.j0] at h, fun _ _ _ _ _ _ _ _ _ _ _ r h => by simp [zoneinforef20_Block.l0] at h, fun _ _ _ _ _ _ _ _ _ _ r h => by simp [zoneinforef20_Block.l1] at h⟩
  | k + 1 => by
    obtain ⟨ih0, ih1, ih2⟩ := zoneinforef20_Block.mono_l k; refine ⟨?_, ?_, ?_⟩
    · intro y0 y1 y2 y3 y4 y5 y6 y7 y8 y9 y10
      unfold zoneinforef20_Block.j0
      repeat' first
      | (with_reducible exact ih0 _ _ _ _ _ _ _ _ _ _ _)
      | (with_reducible exact ih1 _ _ _ _ _ _ _ _ _ _ _)
      | (with_reducible exact ih2 _ _ _ _ _ _ _ _ _ _)
      | (with_reducible exact zoneinforef01_Fits.mono _ _ _)
      | (with_reducible exact zoneinforef12_Valid.mono _ _)
      | (with_reducible exact zoneinforef15_Descent.mono _ _)
      | (with_reducible exact zoneinforef15_Fit.mono _ _ _)
      | (with_reducible exact zoneinforef16_Check.mono _ _ _)
      | (with_reducible exact zoneinforef17_Valid.mono _ _ _)
      | (with_reducible exact zoneinforef18_Consistent.mono _ _ _)
      | (with_reducible exact LeO.refl _)
      | (with_reducible exact LeO.none _)
      | (with_reducible refine LeO.ite ?_ ?_)
      | (with_reducible refine LeO.bind ?_ (fun _ => ?_))
      | exact ih0 _ _ _ _ _ _ _ _ _ _ _
      | exact ih1 _ _ _ _ _ _ _ _ _ _ _
      | exact ih2 _ _ _ _ _ _ _ _ _ _
      | exact zoneinforef01_Fits.mono _ _ _
      | exact zoneinforef12_Valid.mono _ _
      | exact zoneinforef15_Descent.mono _ _
      | exact zoneinforef15_Fit.mono _ _ _
      | exact zoneinforef16_Check.mono _ _ _
      | exact zoneinforef17_Valid.mono _ _ _
      | exact zoneinforef18_Consistent.mono _ _ _
      | exact LeO.none _
      | refine LeO.ite ?_ ?_
      | refine LeO.bind ?_ (fun _ => ?_)
    · intro y0 y1 y2 y3 y4 y5 y6 y7 y8 y9 y10
      unfold zoneinforef20_Block.l0
      repeat' first
      | (with_reducible exact ih0 _ _ _ _ _ _ _ _ _ _ _)
      | (with_reducible exact ih1 _ _ _ _ _ _ _ _ _ _ _)
      | (with_reducible exact ih2 _ _ _ _ _ _ _ _ _ _)
      | (with_reducible exact zoneinforef01_Fits.mono _ _ _)
      | (with_reducible exact zoneinforef12_Valid.mono _ _)
      | (with_reducible exact zoneinforef15_Descent.mono _ _)
      | (with_reducible exact zoneinforef15_Fit.mono _ _ _)
      | (with_reducible exact zoneinforef16_Check.mono _ _ _)
      | (with_reducible exact zoneinforef17_Valid.mono _ _ _)
      | (with_reducible exact zoneinforef18_Consistent.mono _ _ _)
      | (with_reducible exact LeO.refl _)
      | (with_reducible exact LeO.none _)
      | (with_reducible refine LeO.ite ?_ ?_)
      | (with_reducible refine LeO.bind ?_ (fun _ => ?_))
      | exact ih0 _ _ _ _ _ _ _ _ _ _ _
      | exact ih1 _ _ _ _ _ _ _ _ _ _ _
      | exact ih2 _ _ _ _ _ _ _ _ _ _
      | exact zoneinforef01_Fits.mono _ _ _
      | exact zoneinforef12_Valid.mono _ _
      | exact zoneinforef15_Descent.mono _ _
      | exact zoneinforef15_Fit.mono _ _ _
      | exact zoneinforef16_Check.mono _ _ _
      | exact zoneinforef17_Valid.mono _ _ _
      | exact zoneinforef18_Consistent.mono _ _ _
      | exact LeO.none _
      | refine LeO.ite ?_ ?_
      | refine LeO.bind ?_ (fun _ => ?_)
    · intro y0 y1 y2 y3 y4 y5 y6 y7 y8 y9
      unfold zoneinforef20_Block.l1
      repeat' first
      | (with_reducible exact ih0 _ _ _ _ _ _ _ _ _ _ _)
      | (with_reducible exact ih1 _ _ _ _ _ _ _ _ _ _ _)
      | (with_reducible exact ih2 _ _ _ _ _ _ _ _ _ _)
      | (with_reducible exact zoneinforef01_Fits.mono _ _ _)
      | (with_reducible exact zoneinforef12_Valid.mono _ _)
      | (with_reducible exact zoneinforef15_Descent.mono _ _)
      | (with_reducible exact zoneinforef15_Fit.mono _ _ _)
      | (with_reducible exact zoneinforef16_Check.mono _ _ _)
      | (with_reducible exact zoneinforef17_Valid.mono _ _ _)
      | (with_reducible exact zoneinforef18_Consistent.mono _ _ _)
      | (with_reducible exact LeO.refl _)
      | (with_reducible exact LeO.none _)
      | (with_reducible refine LeO.ite ?_ ?_)
      | (with_reducible refine LeO.bind ?_ (fun _ => ?_))
      | exact ih0 _ _ _ _ _ _ _ _ _ _ _
      | exact ih1 _ _ _ _ _ _ _ _ _ _ _
      | exact ih2 _ _ _ _ _ _ _ _ _ _
      | exact zoneinforef01_Fits.mono _ _ _
      | exact zoneinforef12_Valid.mono _ _
      | exact zoneinforef15_Descent.mono _ _
      | exact zoneinforef15_Fit.mono _ _ _
      | exact zoneinforef16_Check.mono _ _ _
      | exact zoneinforef17_Valid.mono _ _ _
      | exact zoneinforef18_Consistent.mono _ _ _
      | exact LeO.none _
      | refine LeO.ite ?_ ?_
      | refine LeO.bind ?_ (fun _ => ?_)
theorem zoneinforef20_Block.mono : ∀ a0 a1 a2 a3 a4 a5 a6 a7 a8 k, LeO (zoneinforef20_Block.f k a0 a1 a2 a3 a4 a5 a6 a7 a8) (zoneinforef20_Block.f (k + 1) a0 a1 a2 a3 a4 a5 a6 a7 a8) := by
  intro a0 a1 a2 a3 a4 a5 a6 a7 a8 k; obtain ⟨ih0, ih1, ih2⟩ := zoneinforef20_Block.mono_l k
  unfold zoneinforef20_Block.f
  repeat' first
      | (with_reducible exact ih0 _ _ _ _ _ _ _ _ _ _ _)
      | (with_reducible exact ih1 _ _ _ _ _ _ _ _ _ _ _)
      | (with_reducible exact ih2 _ _ _ _ _ _ _ _ _ _)
      | (with_reducible exact zoneinforef01_Fits.mono _ _ _)
      | (with_reducible exact zoneinforef12_Valid.mono _ _)
      | (with_reducible exact zoneinforef15_Descent.mono _ _)
      | (with_reducible exact zoneinforef15_Fit.mono _ _ _)
      | (with_reducible exact zoneinforef16_Check.mono _ _ _)
      | (with_reducible exact zoneinforef17_Valid.mono _ _ _)
      | (with_reducible exact zoneinforef18_Consistent.mono _ _ _)
      | (with_reducible exact LeO.refl _)
      | (with_reducible exact LeO.none _)
      | (with_reducible refine LeO.ite ?_ ?_)
      | (with_reducible refine LeO.bind ?_ (fun _ => ?_))
      | exact ih0 _ _ _ _ _ _ _ _ _ _ _
      | exact ih1 _ _ _ _ _ _ _ _ _ _ _
      | exact ih2 _ _ _ _ _ _ _ _ _ _
      | exact zoneinforef01_Fits.mono _ _ _
      | exact zoneinforef12_Valid.mono _ _
      | exact zoneinforef15_Descent.mono _ _
      | exact zoneinforef15_Fit.mono _ _ _
      | exact zoneinforef16_Check.mono _ _ _
      | exact zoneinforef17_Valid.mono _ _ _
      | exact zoneinforef18_Consistent.mono _ _ _
      | exact LeO.none _
      | refine LeO.ite ?_ ?_
      | refine LeO.bind ?_ (fun _ => ?_)
set_option maxHeartbeats 8000000 in
set_option maxRecDepth 100000 in
theorem zoneinforef20_Block.calls (k : Nat) (A0_0 : Option Addr) (c0_0 : Nat) (l0_0 : List Int) (A0_1 : Option Addr) (c0_1 : Nat) (l0_1 : List Int) (A0_2 : Option Addr) (c0_2 : Nat) (l0_2 : List (S42)) (A0_3 : Option Addr) (c0_3 : Nat) (l0_3 : List Int) (A0_4 : Option Addr) (c0_4 : Nat) (l0_4 : List (S55)) (A0_5 : Option Addr) (c0_5 : Nat) (l0_5 : List Bool) (A0_6 : Option Addr) (c0_6 : Nat) (l0_6 : List Bool) (a1 : Int) (a2 : Int) (r : Int) (w : World) (hr0_0 : Kd.C (Kd.int .i64) w A0_0 l0_0.length l0_0) (hc0_0 : l0_0.length ≤ c0_0) (hr0_1 : Kd.C (Kd.int .u8) w A0_1 l0_1.length l0_1) (hc0_1 : l0_1.length ≤ c0_1) (hr0_2 : Kd.C k42 w A0_2 l0_2.length l0_2) (hc0_2 : l0_2.length ≤ c0_2) (hr0_3 : Kd.C (Kd.int .u8) w A0_3 l0_3.length l0_3) (hc0_3 : l0_3.length ≤ c0_3) (hr0_4 : Kd.C k55 w A0_4 l0_4.length l0_4) (hc0_4 : l0_4.length ≤ c0_4) (hr0_5 : Kd.C Kd.bool w A0_5 l0_5.length l0_5) (hc0_5 : l0_5.length ≤ c0_5) (hr0_6 : Kd.C Kd.bool w A0_6 l0_6.length l0_6) (hc0_6 : l0_6.length ≤ c0_6) (h : zoneinforef20_Block.f k l0_0 l0_1 l0_2 l0_3 l0_4 l0_5 l0_6 a1 a2 = some r) :
    Calls Try.prog 22 #[.agg #[.slice A0_0 l0_0.length c0_0, .slice A0_1 l0_1.length c0_1, .slice A0_2 l0_2.length c0_2, .slice A0_3 l0_3.length c0_3, .slice A0_4 l0_4.length c0_4, .slice A0_5 l0_5.length c0_5, .slice A0_6 l0_6.length c0_6], .int .i64 a1, .int .i64 a2] w fun e w' => e = .returned (.int .i64 r) ∧ Below w.heap.size w w' := by
  have hu28 := Try.underlying28; have HR0_0 := Aside0.mk hr0_0; have HC0_0 := Aside0.mk hc0_0; clear hr0_0 hc0_0; have HR0_1 := Aside0.mk hr0_1; have HC0_1 := Aside0.mk hc0_1; clear hr0_1 hc0_1; have HR0_2 := Aside0.mk hr0_2; have HC0_2 := Aside0.mk hc0_2; clear hr0_2 hc0_2; have HR0_3 := Aside0.mk hr0_3; have HC0_3 := Aside0.mk hc0_3; clear hr0_3 hc0_3; have HR0_4 := Aside0.mk hr0_4; have HC0_4 := Aside0.mk hc0_4; clear hr0_4 hc0_4; have HR0_5 := Aside0.mk hr0_5; have HC0_5 := Aside0.mk hc0_5; clear hr0_5 hc0_5; have HR0_6 := Aside0.mk hr0_6; have HC0_6 := Aside0.mk hc0_6; clear hr0_6 hc0_6; have HB := Aside0.mk (Below.refl w.heap.size w)
  have H : (if (l0_1.length : Int) = (l0_0.length : Int) then (if (l0_2.length : Int) = 0 then (zoneinforef20_Block.j0 k a1 a2 (l0_2.length : Int) true l0_0 l0_1 l0_2 l0_3 l0_4 l0_5 l0_6) else (if (l0_3.length : Int) = 0 then (zoneinforef20_Block.j0 k a1 a2 (l0_2.length : Int) true l0_0 l0_1 l0_2 l0_3 l0_4 l0_5 l0_6) else (if (l0_5.length : Int) = 0 then (if (l0_6.length : Int) = 0 then (zoneinforef20_Block.j0 k a1 a2 (l0_2.length : Int) false l0_0 l0_1 l0_2 l0_3 l0_4 l0_5 l0_6) else (zoneinforef20_Block.j0 k a1 a2 (l0_2.length : Int) ((l0_6.length : Int) != (l0_2.length : Int)) l0_0 l0_1 l0_2 l0_3 l0_4 l0_5 l0_6)) else (if (l0_5.length : Int) = (l0_2.length : Int) then (if (l0_6.length : Int) = 0 then (zoneinforef20_Block.j0 k a1 a2 (l0_2.length : Int) false l0_0 l0_1 l0_2 l0_3 l0_4 l0_5 l0_6) else (zoneinforef20_Block.j0 k a1 a2 (l0_2.length : Int) ((l0_6.length : Int) != (l0_2.length : Int)) l0_0 l0_1 l0_2 l0_3 l0_4 l0_5 l0_6)) else (zoneinforef20_Block.j0 k a1 a2 (l0_2.length : Int) true l0_0 l0_1 l0_2 l0_3 l0_4 l0_5 l0_6))))) else (zoneinforef20_Block.j0 k a1 a2 (l0_2.length : Int) true l0_0 l0_1 l0_2 l0_3 l0_4 l0_5 l0_6)) = some r := h
  clear h; have HC4 := Aside0.mk H; clear H
  go_enter Try.func22, Try.ntmps22
  (try simp only [List.append_eq, List.cons_append, List.nil_append])
  go_upto_region 2 with (first | ((with_reducible refine gate_dst (N := 3) rfl ?_); (try (refine gate_guard (by rfl) ?_; dsimp only)); refine box_event ?hg (N := 3) ?hd (cs := #[.slice A0_0 l0_0.length c0_0, .slice A0_1 l0_1.length c0_1, .slice A0_2 l0_2.length c0_2, .slice A0_3 l0_3.length c0_3, .slice A0_4 l0_4.length c0_4, .slice A0_5 l0_5.length c0_5, .slice A0_6 l0_6.length c0_6]) (t := 28) ?hr ?_; (case hd => rfl); (case hg => rfl); (case hr => first | (go_simp; done) | (go_simp; rfl)); intro gb195 hg w5 hbox hb; have n0_ := Aside0.mk (below_step (by repeat (first | (with_reducible first | exact HB.out | apply below_alloc | apply pw_below_drewN | apply below_drew1) | exact HB.out)) hb); have n1_ := Aside0.mk (hbox); have n2_ := Aside0.mk ((by rw [hg]; exact (below_size (by repeat (first | (with_reducible first | exact HB.out | apply below_alloc | apply pw_below_drewN | apply below_drew1) | exact HB.out))) : w.heap.size ≤ gb195)); have n3_ := Aside0.mk ((by rw [hg]; exact (below_size (by repeat (first | (with_reducible first | exact HB.out | apply below_alloc | apply pw_below_drewN | apply below_drew1) | exact HB.out))) : w.heap.size ≤ gb195)); clear HB; have HB := n0_; have BK195 := n1_; have GW195 := n2_; have GE195 := n3_; clear n0_ n1_ n2_ n3_; clear hb hbox hg; have hcz6_0 : w5.cell? ⟨gb195, 0, none⟩ = some (.slice A0_0 l0_0.length c0_0) := (blk_cell BK195.out 0).trans rfl; have hcz6_1 : w5.cell? ⟨gb195, 1, none⟩ = some (.slice A0_1 l0_1.length c0_1) := (blk_cell BK195.out 1).trans rfl; have hcz6_2 : w5.cell? ⟨gb195, 2, none⟩ = some (.slice A0_2 l0_2.length c0_2) := (blk_cell BK195.out 2).trans rfl; have hcz6_3 : w5.cell? ⟨gb195, 3, none⟩ = some (.slice A0_3 l0_3.length c0_3) := (blk_cell BK195.out 3).trans rfl; have hcz6_4 : w5.cell? ⟨gb195, 4, none⟩ = some (.slice A0_4 l0_4.length c0_4) := (blk_cell BK195.out 4).trans rfl; have hcz6_5 : w5.cell? ⟨gb195, 5, none⟩ = some (.slice A0_5 l0_5.length c0_5) := (blk_cell BK195.out 5).trans rfl; have hcz6_6 : w5.cell? ⟨gb195, 6, none⟩ = some (.slice A0_6 l0_6.length c0_6) := (blk_cell BK195.out 6).trans rfl; have hfz6_0 := blk_frozen BK195.out 0; have hfz6_1 := blk_frozen BK195.out 1; have hfz6_2 := blk_frozen BK195.out 2; have hfz6_3 := blk_frozen BK195.out 3; have hfz6_4 := blk_frozen BK195.out 4; have hfz6_5 := blk_frozen BK195.out 5; have hfz6_6 := blk_frozen BK195.out 6))
  (try simp only [Act.put, List.setIfInBounds_toArray, List.set_cons_zero, List.set_cons_succ])
  go_cut [56] (fun v56 wc => ∃ (kq : Nat) (x56_3 : Bool), v56 = .bool x56_3 ∧ Aside0 (zoneinforef20_Block.j0 kq a1 a2 (l0_2.length : Int) x56_3 l0_0 l0_1 l0_2 l0_3 l0_4 l0_5 l0_6 = some r) ∧ Aside0 (kq ≤ k) ∧ Aside0 (wc.heap[gb195]? = some (.cells #[(.slice A0_0 l0_0.length c0_0), (.slice A0_1 l0_1.length c0_1), (.slice A0_2 l0_2.length c0_2), (.slice A0_3 l0_3.length c0_3), (.slice A0_4 l0_4.length c0_4), (.slice A0_5 l0_5.length c0_5), (.slice A0_6 l0_6.length c0_6)] 28 (0, 0))) ∧ Aside0 (Below w.heap.size w wc))
  case first =>
    have H := HC4.out; clear HC4
    by_cases c7 : (l0_1.length : Int) = (l0_0.length : Int)
    · rw [if_pos c7] at H
      have c7b0 : ((l0_1.length : Int) == (l0_0.length : Int)) = true := beq_iff_eq.mpr c7
      have c7b1 : ((l0_1.length : Int) != (l0_0.length : Int)) = false := bne_eq_false_iff_eq.mpr c7
      have c7b2 : (l0_1.length == l0_0.length) = true := by first | simpa using c7 | (simp at c7 ⊢; omega)
      clear c7; (first | rw [c7b0] | (simp only [i64_w, i32_w]; rw [c7b0]) | skip)
      by_cases c8 : (l0_2.length : Int) = 0
      · rw [if_pos c8] at H
        have c8b0 : ((l0_2.length : Int) == 0) = true := beq_iff_eq.mpr c8
        have c8b1 : ((l0_2.length : Int) != 0) = false := bne_eq_false_iff_eq.mpr c8
        clear c8; have H' := Aside0.mk H; clear H
        have hcz9_0 : w5.cell? ⟨gb195, 0, none⟩ = some (.slice A0_0 l0_0.length c0_0) := (blk_cell BK195.out 0).trans rfl
        have hcz9_1 : w5.cell? ⟨gb195, 1, none⟩ = some (.slice A0_1 l0_1.length c0_1) := (blk_cell BK195.out 1).trans rfl
        have hcz9_2 : w5.cell? ⟨gb195, 2, none⟩ = some (.slice A0_2 l0_2.length c0_2) := (blk_cell BK195.out 2).trans rfl
        have hcz9_3 : w5.cell? ⟨gb195, 3, none⟩ = some (.slice A0_3 l0_3.length c0_3) := (blk_cell BK195.out 3).trans rfl
        have hcz9_4 : w5.cell? ⟨gb195, 4, none⟩ = some (.slice A0_4 l0_4.length c0_4) := (blk_cell BK195.out 4).trans rfl
        have hcz9_5 : w5.cell? ⟨gb195, 5, none⟩ = some (.slice A0_5 l0_5.length c0_5) := (blk_cell BK195.out 5).trans rfl
        have hcz9_6 : w5.cell? ⟨gb195, 6, none⟩ = some (.slice A0_6 l0_6.length c0_6) := (blk_cell BK195.out 6).trans rfl
        have hfz9_0 := blk_frozen BK195.out 0; have hfz9_1 := blk_frozen BK195.out 1; have hfz9_2 := blk_frozen BK195.out 2; have hfz9_3 := blk_frozen BK195.out 3; have hfz9_4 := blk_frozen BK195.out 4; have hfz9_5 := blk_frozen BK195.out 5; have hfz9_6 := blk_frozen BK195.out 6; go_wp2
        go_meet
        case rel => exact ⟨_, (true), (by first | rfl | (simp; done) | (simp [*]; done)), H', ⟨by first | omega | exact Nat.le_refl _⟩, ⟨by (with_reducible repeat (first | refine blk_drewN ?_ _ | refine blk_drew ?_ | refine blk_alloc ?_ _)); exact BK195.out⟩, ⟨by repeat (first | (with_reducible first | exact HB.out | apply below_alloc | apply pw_below_drewN | apply below_drew1 | refine below_set ?_ GE195.out) | exact HB.out)⟩⟩
      · rw [if_neg c8] at H
        have c8b0 : ((l0_2.length : Int) == 0) = false := beq_eq_false_iff_ne.mpr c8
        have c8b1 : ((l0_2.length : Int) != 0) = true := bne_iff_ne.mpr c8
        have c8b2 : ¬ (l0_2 = []) := fun h_ => c8 (by rw [h_]; rfl)
        by_cases c10 : (l0_3.length : Int) = 0
        · rw [if_pos c10] at H
          have c10b0 : ((l0_3.length : Int) == 0) = true := beq_iff_eq.mpr c10
          have c10b1 : ((l0_3.length : Int) != 0) = false := bne_eq_false_iff_eq.mpr c10
          clear c10; have H' := Aside0.mk H; clear H
          have hcz11_0 : w5.cell? ⟨gb195, 0, none⟩ = some (.slice A0_0 l0_0.length c0_0) := (blk_cell BK195.out 0).trans rfl
          have hcz11_1 : w5.cell? ⟨gb195, 1, none⟩ = some (.slice A0_1 l0_1.length c0_1) := (blk_cell BK195.out 1).trans rfl
          have hcz11_2 : w5.cell? ⟨gb195, 2, none⟩ = some (.slice A0_2 l0_2.length c0_2) := (blk_cell BK195.out 2).trans rfl
          have hcz11_3 : w5.cell? ⟨gb195, 3, none⟩ = some (.slice A0_3 l0_3.length c0_3) := (blk_cell BK195.out 3).trans rfl
          have hcz11_4 : w5.cell? ⟨gb195, 4, none⟩ = some (.slice A0_4 l0_4.length c0_4) := (blk_cell BK195.out 4).trans rfl
          have hcz11_5 : w5.cell? ⟨gb195, 5, none⟩ = some (.slice A0_5 l0_5.length c0_5) := (blk_cell BK195.out 5).trans rfl
          have hcz11_6 : w5.cell? ⟨gb195, 6, none⟩ = some (.slice A0_6 l0_6.length c0_6) := (blk_cell BK195.out 6).trans rfl
          have hfz11_0 := blk_frozen BK195.out 0; have hfz11_1 := blk_frozen BK195.out 1; have hfz11_2 := blk_frozen BK195.out 2; have hfz11_3 := blk_frozen BK195.out 3; have hfz11_4 := blk_frozen BK195.out 4; have hfz11_5 := blk_frozen BK195.out 5; have hfz11_6 := blk_frozen BK195.out 6; go_wp2
          go_meet
          case rel => exact ⟨_, (true), (by first | rfl | (simp; done) | (simp [*]; done)), H', ⟨by first | omega | exact Nat.le_refl _⟩, ⟨by (with_reducible repeat (first | refine blk_drewN ?_ _ | refine blk_drew ?_ | refine blk_alloc ?_ _)); exact BK195.out⟩, ⟨by repeat (first | (with_reducible first | exact HB.out | apply below_alloc | apply pw_below_drewN | apply below_drew1 | refine below_set ?_ GE195.out) | exact HB.out)⟩⟩
        · rw [if_neg c10] at H
          have c10b0 : ((l0_3.length : Int) == 0) = false := beq_eq_false_iff_ne.mpr c10
          have c10b1 : ((l0_3.length : Int) != 0) = true := bne_iff_ne.mpr c10
          have c10b2 : ¬ (l0_3 = []) := fun h_ => c10 (by rw [h_]; rfl)
          by_cases c12 : (l0_5.length : Int) = 0
          · rw [if_pos c12] at H
            have c12b0 : ((l0_5.length : Int) == 0) = true := beq_iff_eq.mpr c12
            have c12b1 : ((l0_5.length : Int) != 0) = false := bne_eq_false_iff_eq.mpr c12
            clear c12
            by_cases c13 : (l0_6.length : Int) = 0
            · rw [if_pos c13] at H
              have c13b0 : ((l0_6.length : Int) == 0) = true := beq_iff_eq.mpr c13
              have c13b1 : ((l0_6.length : Int) != 0) = false := bne_eq_false_iff_eq.mpr c13
              clear c13; have H' := Aside0.mk H; clear H
              have hcz14_0 : w5.cell? ⟨gb195, 0, none⟩ = some (.slice A0_0 l0_0.length c0_0) := (blk_cell BK195.out 0).trans rfl
              have hcz14_1 : w5.cell? ⟨gb195, 1, none⟩ = some (.slice A0_1 l0_1.length c0_1) := (blk_cell BK195.out 1).trans rfl
              have hcz14_2 : w5.cell? ⟨gb195, 2, none⟩ = some (.slice A0_2 l0_2.length c0_2) := (blk_cell BK195.out 2).trans rfl
              have hcz14_3 : w5.cell? ⟨gb195, 3, none⟩ = some (.slice A0_3 l0_3.length c0_3) := (blk_cell BK195.out 3).trans rfl
              have hcz14_4 : w5.cell? ⟨gb195, 4, none⟩ = some (.slice A0_4 l0_4.length c0_4) := (blk_cell BK195.out 4).trans rfl
              have hcz14_5 : w5.cell? ⟨gb195, 5, none⟩ = some (.slice A0_5 l0_5.length c0_5) := (blk_cell BK195.out 5).trans rfl
              have hcz14_6 : w5.cell? ⟨gb195, 6, none⟩ = some (.slice A0_6 l0_6.length c0_6) := (blk_cell BK195.out 6).trans rfl
              have hfz14_0 := blk_frozen BK195.out 0; have hfz14_1 := blk_frozen BK195.out 1; have hfz14_2 := blk_frozen BK195.out 2; have hfz14_3 := blk_frozen BK195.out 3; have hfz14_4 := blk_frozen BK195.out 4; have hfz14_5 := blk_frozen BK195.out 5; have hfz14_6 := blk_frozen BK195.out 6; go_wp2
              go_meet
              case rel => exact ⟨_, (false), (by first | rfl | (simp; done) | (simp [*]; done)), H', ⟨by first | omega | exact Nat.le_refl _⟩, ⟨by (with_reducible repeat (first | refine blk_drewN ?_ _ | refine blk_drew ?_ | refine blk_alloc ?_ _)); exact BK195.out⟩, ⟨by repeat (first | (with_reducible first | exact HB.out | apply below_alloc | apply pw_below_drewN | apply below_drew1 | refine below_set ?_ GE195.out) | exact HB.out)⟩⟩
            · rw [if_neg c13] at H
              have c13b0 : ((l0_6.length : Int) == 0) = false := beq_eq_false_iff_ne.mpr c13
              have c13b1 : ((l0_6.length : Int) != 0) = true := bne_iff_ne.mpr c13
              have c13b2 : ¬ (l0_6 = []) := fun h_ => c13 (by rw [h_]; rfl)
              have H' := Aside0.mk H; clear H
              have hcz15_0 : w5.cell? ⟨gb195, 0, none⟩ = some (.slice A0_0 l0_0.length c0_0) := (blk_cell BK195.out 0).trans rfl
              have hcz15_1 : w5.cell? ⟨gb195, 1, none⟩ = some (.slice A0_1 l0_1.length c0_1) := (blk_cell BK195.out 1).trans rfl
              have hcz15_2 : w5.cell? ⟨gb195, 2, none⟩ = some (.slice A0_2 l0_2.length c0_2) := (blk_cell BK195.out 2).trans rfl
              have hcz15_3 : w5.cell? ⟨gb195, 3, none⟩ = some (.slice A0_3 l0_3.length c0_3) := (blk_cell BK195.out 3).trans rfl
              have hcz15_4 : w5.cell? ⟨gb195, 4, none⟩ = some (.slice A0_4 l0_4.length c0_4) := (blk_cell BK195.out 4).trans rfl
              have hcz15_5 : w5.cell? ⟨gb195, 5, none⟩ = some (.slice A0_5 l0_5.length c0_5) := (blk_cell BK195.out 5).trans rfl
              have hcz15_6 : w5.cell? ⟨gb195, 6, none⟩ = some (.slice A0_6 l0_6.length c0_6) := (blk_cell BK195.out 6).trans rfl
              have hfz15_0 := blk_frozen BK195.out 0; have hfz15_1 := blk_frozen BK195.out 1; have hfz15_2 := blk_frozen BK195.out 2; have hfz15_3 := blk_frozen BK195.out 3; have hfz15_4 := blk_frozen BK195.out 4; have hfz15_5 := blk_frozen BK195.out 5; have hfz15_6 := blk_frozen BK195.out 6; go_wp2
              go_meet
              case rel => exact ⟨_, (((l0_6.length : Int) != (l0_2.length : Int))), (by first | rfl | (simp; done) | (simp [*]; done)), H', ⟨by first | omega | exact Nat.le_refl _⟩, ⟨by (with_reducible repeat (first | refine blk_drewN ?_ _ | refine blk_drew ?_ | refine blk_alloc ?_ _)); exact BK195.out⟩, ⟨by repeat (first | (with_reducible first | exact HB.out | apply below_alloc | apply pw_below_drewN | apply below_drew1 | refine below_set ?_ GE195.out) | exact HB.out)⟩⟩
          · rw [if_neg c12] at H
            have c12b0 : ((l0_5.length : Int) == 0) = false := beq_eq_false_iff_ne.mpr c12
            have c12b1 : ((l0_5.length : Int) != 0) = true := bne_iff_ne.mpr c12
            have c12b2 : ¬ (l0_5 = []) := fun h_ => c12 (by rw [h_]; rfl)
            by_cases c16 : (l0_5.length : Int) = (l0_2.length : Int)
            · rw [if_pos c16] at H
              have c16b0 : ((l0_5.length : Int) == (l0_2.length : Int)) = true := beq_iff_eq.mpr c16
              have c16b1 : ((l0_5.length : Int) != (l0_2.length : Int)) = false := bne_eq_false_iff_eq.mpr c16
              have c16b2 : (l0_5.length == l0_2.length) = true := by first | simpa using c16 | (simp at c16 ⊢; omega)
              clear c16
              by_cases c17 : (l0_6.length : Int) = 0
              · rw [if_pos c17] at H
                have c17b0 : ((l0_6.length : Int) == 0) = true := beq_iff_eq.mpr c17
                have c17b1 : ((l0_6.length : Int) != 0) = false := bne_eq_false_iff_eq.mpr c17
                clear c17; have H' := Aside0.mk H; clear H
                have hcz18_0 : w5.cell? ⟨gb195, 0, none⟩ = some (.slice A0_0 l0_0.length c0_0) := (blk_cell BK195.out 0).trans rfl
                have hcz18_1 : w5.cell? ⟨gb195, 1, none⟩ = some (.slice A0_1 l0_1.length c0_1) := (blk_cell BK195.out 1).trans rfl
                have hcz18_2 : w5.cell? ⟨gb195, 2, none⟩ = some (.slice A0_2 l0_2.length c0_2) := (blk_cell BK195.out 2).trans rfl
                have hcz18_3 : w5.cell? ⟨gb195, 3, none⟩ = some (.slice A0_3 l0_3.length c0_3) := (blk_cell BK195.out 3).trans rfl
                have hcz18_4 : w5.cell? ⟨gb195, 4, none⟩ = some (.slice A0_4 l0_4.length c0_4) := (blk_cell BK195.out 4).trans rfl
                have hcz18_5 : w5.cell? ⟨gb195, 5, none⟩ = some (.slice A0_5 l0_5.length c0_5) := (blk_cell BK195.out 5).trans rfl
                have hcz18_6 : w5.cell? ⟨gb195, 6, none⟩ = some (.slice A0_6 l0_6.length c0_6) := (blk_cell BK195.out 6).trans rfl
                have hfz18_0 := blk_frozen BK195.out 0; have hfz18_1 := blk_frozen BK195.out 1; have hfz18_2 := blk_frozen BK195.out 2; have hfz18_3 := blk_frozen BK195.out 3; have hfz18_4 := blk_frozen BK195.out 4; have hfz18_5 := blk_frozen BK195.out 5; have hfz18_6 := blk_frozen BK195.out 6; go_wp2
                go_meet
                case rel => exact ⟨_, (false), (by first | rfl | (simp; done) | (simp [*]; done)), H', ⟨by first | omega | exact Nat.le_refl _⟩, ⟨by (with_reducible repeat (first | refine blk_drewN ?_ _ | refine blk_drew ?_ | refine blk_alloc ?_ _)); exact BK195.out⟩, ⟨by repeat (first | (with_reducible first | exact HB.out | apply below_alloc | apply pw_below_drewN | apply below_drew1 | refine below_set ?_ GE195.out) | exact HB.out)⟩⟩
              · rw [if_neg c17] at H
                have c17b0 : ((l0_6.length : Int) == 0) = false := beq_eq_false_iff_ne.mpr c17
                have c17b1 : ((l0_6.length : Int) != 0) = true := bne_iff_ne.mpr c17
                have c17b2 : ¬ (l0_6 = []) := fun h_ => c17 (by rw [h_]; rfl)
                have H' := Aside0.mk H; clear H
                have hcz19_0 : w5.cell? ⟨gb195, 0, none⟩ = some (.slice A0_0 l0_0.length c0_0) := (blk_cell BK195.out 0).trans rfl
                have hcz19_1 : w5.cell? ⟨gb195, 1, none⟩ = some (.slice A0_1 l0_1.length c0_1) := (blk_cell BK195.out 1).trans rfl
                have hcz19_2 : w5.cell? ⟨gb195, 2, none⟩ = some (.slice A0_2 l0_2.length c0_2) := (blk_cell BK195.out 2).trans rfl
                have hcz19_3 : w5.cell? ⟨gb195, 3, none⟩ = some (.slice A0_3 l0_3.length c0_3) := (blk_cell BK195.out 3).trans rfl
                have hcz19_4 : w5.cell? ⟨gb195, 4, none⟩ = some (.slice A0_4 l0_4.length c0_4) := (blk_cell BK195.out 4).trans rfl
                have hcz19_5 : w5.cell? ⟨gb195, 5, none⟩ = some (.slice A0_5 l0_5.length c0_5) := (blk_cell BK195.out 5).trans rfl
                have hcz19_6 : w5.cell? ⟨gb195, 6, none⟩ = some (.slice A0_6 l0_6.length c0_6) := (blk_cell BK195.out 6).trans rfl
                have hfz19_0 := blk_frozen BK195.out 0; have hfz19_1 := blk_frozen BK195.out 1; have hfz19_2 := blk_frozen BK195.out 2; have hfz19_3 := blk_frozen BK195.out 3; have hfz19_4 := blk_frozen BK195.out 4; have hfz19_5 := blk_frozen BK195.out 5; have hfz19_6 := blk_frozen BK195.out 6; go_wp2
                go_meet
                case rel => exact ⟨_, (((l0_6.length : Int) != (l0_2.length : Int))), (by first | rfl | (simp; done) | (simp [*]; done)), H', ⟨by first | omega | exact Nat.le_refl _⟩, ⟨by (with_reducible repeat (first | refine blk_drewN ?_ _ | refine blk_drew ?_ | refine blk_alloc ?_ _)); exact BK195.out⟩, ⟨by repeat (first | (with_reducible first | exact HB.out | apply below_alloc | apply pw_below_drewN | apply below_drew1 | refine below_set ?_ GE195.out) | exact HB.out)⟩⟩
            · rw [if_neg c16] at H
              have c16b0 : ((l0_5.length : Int) == (l0_2.length : Int)) = false := beq_eq_false_iff_ne.mpr c16
              have c16b1 : ((l0_5.length : Int) != (l0_2.length : Int)) = true := bne_iff_ne.mpr c16
              have c16b2 : (l0_5.length == l0_2.length) = false := by first | simpa using c16 | (simp at c16 ⊢; omega)
              have H' := Aside0.mk H; clear H
              have hcz20_0 : w5.cell? ⟨gb195, 0, none⟩ = some (.slice A0_0 l0_0.length c0_0) := (blk_cell BK195.out 0).trans rfl
              have hcz20_1 : w5.cell? ⟨gb195, 1, none⟩ = some (.slice A0_1 l0_1.length c0_1) := (blk_cell BK195.out 1).trans rfl
              have hcz20_2 : w5.cell? ⟨gb195, 2, none⟩ = some (.slice A0_2 l0_2.length c0_2) := (blk_cell BK195.out 2).trans rfl
              have hcz20_3 : w5.cell? ⟨gb195, 3, none⟩ = some (.slice A0_3 l0_3.length c0_3) := (blk_cell BK195.out 3).trans rfl
              have hcz20_4 : w5.cell? ⟨gb195, 4, none⟩ = some (.slice A0_4 l0_4.length c0_4) := (blk_cell BK195.out 4).trans rfl
              have hcz20_5 : w5.cell? ⟨gb195, 5, none⟩ = some (.slice A0_5 l0_5.length c0_5) := (blk_cell BK195.out 5).trans rfl
              have hcz20_6 : w5.cell? ⟨gb195, 6, none⟩ = some (.slice A0_6 l0_6.length c0_6) := (blk_cell BK195.out 6).trans rfl
              have hfz20_0 := blk_frozen BK195.out 0; have hfz20_1 := blk_frozen BK195.out 1; have hfz20_2 := blk_frozen BK195.out 2; have hfz20_3 := blk_frozen BK195.out 3; have hfz20_4 := blk_frozen BK195.out 4; have hfz20_5 := blk_frozen BK195.out 5; have hfz20_6 := blk_frozen BK195.out 6; go_wp2
              go_meet
              case rel => exact ⟨_, (true), (by first | rfl | (simp; done) | (simp [*]; done)), H', ⟨by first | omega | exact Nat.le_refl _⟩, ⟨by (with_reducible repeat (first | refine blk_drewN ?_ _ | refine blk_drew ?_ | refine blk_alloc ?_ _)); exact BK195.out⟩, ⟨by repeat (first | (with_reducible first | exact HB.out | apply below_alloc | apply pw_below_drewN | apply below_drew1 | refine below_set ?_ GE195.out) | exact HB.out)⟩⟩
    · rw [if_neg c7] at H
      have c7b0 : ((l0_1.length : Int) == (l0_0.length : Int)) = false := beq_eq_false_iff_ne.mpr c7
      have c7b1 : ((l0_1.length : Int) != (l0_0.length : Int)) = true := bne_iff_ne.mpr c7
      have c7b2 : (l0_1.length == l0_0.length) = false := by first | simpa using c7 | (simp at c7 ⊢; omega)
      (first | rw [c7b0] | (simp only [i64_w, i32_w]; rw [c7b0]) | skip); have H' := Aside0.mk H; clear H
      have hcz21_0 : w5.cell? ⟨gb195, 0, none⟩ = some (.slice A0_0 l0_0.length c0_0) := (blk_cell BK195.out 0).trans rfl
      have hcz21_1 : w5.cell? ⟨gb195, 1, none⟩ = some (.slice A0_1 l0_1.length c0_1) := (blk_cell BK195.out 1).trans rfl
      have hcz21_2 : w5.cell? ⟨gb195, 2, none⟩ = some (.slice A0_2 l0_2.length c0_2) := (blk_cell BK195.out 2).trans rfl
      have hcz21_3 : w5.cell? ⟨gb195, 3, none⟩ = some (.slice A0_3 l0_3.length c0_3) := (blk_cell BK195.out 3).trans rfl
      have hcz21_4 : w5.cell? ⟨gb195, 4, none⟩ = some (.slice A0_4 l0_4.length c0_4) := (blk_cell BK195.out 4).trans rfl
      have hcz21_5 : w5.cell? ⟨gb195, 5, none⟩ = some (.slice A0_5 l0_5.length c0_5) := (blk_cell BK195.out 5).trans rfl
      have hcz21_6 : w5.cell? ⟨gb195, 6, none⟩ = some (.slice A0_6 l0_6.length c0_6) := (blk_cell BK195.out 6).trans rfl
      have hfz21_0 := blk_frozen BK195.out 0; have hfz21_1 := blk_frozen BK195.out 1; have hfz21_2 := blk_frozen BK195.out 2; have hfz21_3 := blk_frozen BK195.out 3; have hfz21_4 := blk_frozen BK195.out 4; have hfz21_5 := blk_frozen BK195.out 5; have hfz21_6 := blk_frozen BK195.out 6; go_wp2
      go_meet
      case rel => exact ⟨_, (true), (by first | rfl | (simp; done) | (simp [*]; done)), H', ⟨by first | omega | exact Nat.le_refl _⟩, ⟨by (with_reducible repeat (first | refine blk_drewN ?_ _ | refine blk_drew ?_ | refine blk_alloc ?_ _)); exact BK195.out⟩, ⟨by repeat (first | (with_reducible first | exact HB.out | apply below_alloc | apply pw_below_drewN | apply below_drew1 | refine below_set ?_ GE195.out) | exact HB.out)⟩⟩
  case rest =>
    clear HC4; (try clear c1); (try clear c2); (try clear p2); (try clear c7); (try clear c7b0); (try clear c7b1); (try clear c7b2); (try clear c8); (try clear c8b0); (try clear c8b1); (try clear c8b2); (try clear c10); (try clear c10b0); (try clear c10b1); (try clear c10b2); (try clear c12); (try clear c12b0); (try clear c12b1); (try clear c12b2); (try clear c13); (try clear c13b0); (try clear c13b1); (try clear c13b2); (try clear c16); (try clear c16b0); (try clear c16b1); (try clear c16b2); (try clear c17); (try clear c17b0); (try clear c17b1); (try clear c17b2); (try clear hcz11_0); (try clear hcz11_1); (try clear hcz11_2); (try clear hcz11_3); (try clear hcz11_4); (try clear hcz11_5); (try clear hcz11_6); (try clear hcz14_0); (try clear hcz14_1); (try clear hcz14_2); (try clear hcz14_3); (try clear hcz14_4); (try clear hcz14_5); (try clear hcz14_6); (try clear hcz15_0); (try clear hcz15_1); (try clear hcz15_2); (try clear hcz15_3); (try clear hcz15_4); (try clear hcz15_5); (try clear hcz15_6); (try clear hcz18_0); (try clear hcz18_1); (try clear hcz18_2); (try clear hcz18_3); (try clear hcz18_4); (try clear hcz18_5); (try clear hcz18_6); (try clear hcz19_0); (try clear hcz19_1); (try clear hcz19_2); (try clear hcz19_3); (try clear hcz19_4); (try clear hcz19_5); (try clear hcz19_6); (try clear hcz20_0); (try clear hcz20_1); (try clear hcz20_2); (try clear hcz20_3); (try clear hcz20_4); (try clear hcz20_5); (try clear hcz20_6); (try clear hcz21_0); (try clear hcz21_1); (try clear hcz21_2); (try clear hcz21_3); (try clear hcz21_4); (try clear hcz21_5); (try clear hcz21_6); (try clear hcz6_0); (try clear hcz6_1); (try clear hcz6_2); (try clear hcz6_3); (try clear hcz6_4); (try clear hcz6_5); (try clear hcz6_6); (try clear hcz9_0); (try clear hcz9_1); (try clear hcz9_2); (try clear hcz9_3); (try clear hcz9_4); (try clear hcz9_5); (try clear hcz9_6); (try clear hfz11_0); (try clear hfz11_1); (try clear hfz11_2); (try clear hfz11_3); (try clear hfz11_4); (try clear hfz11_5); (try clear hfz11_6); (try clear hfz14_0); (try clear hfz14_1); (try clear hfz14_2); (try clear hfz14_3); (try clear hfz14_4); (try clear hfz14_5); (try clear hfz14_6); (try clear hfz15_0); (try clear hfz15_1); (try clear hfz15_2); (try clear hfz15_3); (try clear hfz15_4); (try clear hfz15_5); (try clear hfz15_6); (try clear hfz18_0); (try clear hfz18_1); (try clear hfz18_2); (try clear hfz18_3); (try clear hfz18_4); (try clear hfz18_5); (try clear hfz18_6); (try clear hfz19_0); (try clear hfz19_1); (try clear hfz19_2); (try clear hfz19_3); (try clear hfz19_4); (try clear hfz19_5); (try clear hfz19_6); (try clear hfz20_0); (try clear hfz20_1); (try clear hfz20_2); (try clear hfz20_3); (try clear hfz20_4); (try clear hfz20_5); (try clear hfz20_6); (try clear hfz21_0); (try clear hfz21_1); (try clear hfz21_2); (try clear hfz21_3); (try clear hfz21_4); (try clear hfz21_5); (try clear hfz21_6); (try clear hfz6_0); (try clear hfz6_1); (try clear hfz6_2); (try clear hfz6_3); (try clear hfz6_4); (try clear hfz6_5); (try clear hfz6_6); (try clear hfz9_0); (try clear hfz9_1); (try clear hfz9_2); (try clear hfz9_3); (try clear hfz9_4); (try clear hfz9_5); (try clear hfz9_6); obtain ⟨kq, x56_3, rfl, HA, HJ3, BK195, HB⟩ := hcut
    cases kq with
    | zero => exact absurd HA.out (by simp [zoneinforef20_Block.j0])
    | succ kj3 =>
      have H := HA.out; clear HA
      simp only [zoneinforef20_Block.j0] at H
      by_cases c22 : x56_3 = true
      · subst c22
        have H1 : (some 6) = some r := by rw [if_pos rfl] at H; exact H
        clear H; have H := H1; clear H1
        obtain rfl := Option.some.inj H
        go_wp2
        go_ret
        exact ⟨by first | rfl | (simp [errW_none, errW_some] <;> rfl) | (simp [*, errW_none, errW_some] <;> rfl), by repeat (first | (with_reducible first | exact HB.out | apply below_alloc | apply pw_below_drewN | apply below_drew1 | refine below_set ?_ GE195.out) | exact HB.out)⟩
      · replace c22 := Bool.eq_false_iff.mpr c22
        subst c22
        have H1 : ((zoneinforef15_Fit.f kj3 l0_0 a2).bind fun t196 => (if t196 = true then (zoneinforef20_Block.l0 kj3 a1 a2 (l0_2.length : Int) 0 l0_0 l0_1 l0_2 l0_3 l0_4 l0_5 l0_6) else (some 18))) = some r := by rw [if_neg (show ¬ (false = true) by decide)] at H; exact H
        clear H; have H := H1; clear H1; replace H := Option.bind_eq_some_iff.mp H; obtain ⟨t196, A230, H⟩ := H
        replace H : (if t196 = true then (zoneinforef20_Block.l0 kj3 a1 a2 (l0_2.length : Int) 0 l0_0 l0_1 l0_2 l0_3 l0_4 l0_5 l0_6) else (some 18)) = some r := H
        have A23 := Aside0.mk A230; clear A230
        by_cases c24 : t196 = true
        · subst c24
          have H1 : (zoneinforef20_Block.l0 kj3 a1 a2 (l0_2.length : Int) 0 l0_0 l0_1 l0_2 l0_3 l0_4 l0_5 l0_6) = some r := by rw [if_pos rfl] at H; exact H
          clear H; have H := H1; clear H1; have H' := Aside0.mk H; clear H
          have hcz25_0 : wc.cell? ⟨gb195, 0, none⟩ = some (.slice A0_0 l0_0.length c0_0) := (blk_cell BK195.out 0).trans rfl
          have hcz25_1 : wc.cell? ⟨gb195, 1, none⟩ = some (.slice A0_1 l0_1.length c0_1) := (blk_cell BK195.out 1).trans rfl
          have hcz25_2 : wc.cell? ⟨gb195, 2, none⟩ = some (.slice A0_2 l0_2.length c0_2) := (blk_cell BK195.out 2).trans rfl
          have hcz25_3 : wc.cell? ⟨gb195, 3, none⟩ = some (.slice A0_3 l0_3.length c0_3) := (blk_cell BK195.out 3).trans rfl
          have hcz25_4 : wc.cell? ⟨gb195, 4, none⟩ = some (.slice A0_4 l0_4.length c0_4) := (blk_cell BK195.out 4).trans rfl
          have hcz25_5 : wc.cell? ⟨gb195, 5, none⟩ = some (.slice A0_5 l0_5.length c0_5) := (blk_cell BK195.out 5).trans rfl
          have hcz25_6 : wc.cell? ⟨gb195, 6, none⟩ = some (.slice A0_6 l0_6.length c0_6) := (blk_cell BK195.out 6).trans rfl
          have hfz25_0 := blk_frozen BK195.out 0; have hfz25_1 := blk_frozen BK195.out 1; have hfz25_2 := blk_frozen BK195.out 2; have hfz25_3 := blk_frozen BK195.out 3; have hfz25_4 := blk_frozen BK195.out 4; have hfz25_5 := blk_frozen BK195.out 5; have hfz25_6 := blk_frozen BK195.out 6
          go_wp2_with (first | ((with_reducible refine gate_callee (f := 27) rfl ?_); refine goesL_ (some 60) rfl rfl Try.func27 (by kernel_rfl) rfl #[.slice A0_0 l0_0.length c0_0, .int .i64 a2] rfl (by (try simp only [List.map_toArray, List.map_cons, List.map_nil]); first | done | rfl | (simp only [List.length_drop, List.length_take]; rfl)) ?_; (with_reducible refine (zoneinforef15_Fit.calls kj3 _ _ l0_0 a2 true _ ?side1 ?side2 A23.out).mono ?_); (case side1 => repeat (first | exact (Kd.C_below HR0_0.out HB.out) | (with_reducible refine Kd.C_alloc ?_ _) | (with_reducible refine Kd.C_drewN ?_ _) | (with_reducible refine Kd.C_drew ?_))); (case side2 => exact HC0_0.out); rintro e w' ⟨rfl, ⟨nd, rfl⟩⟩; refine ⟨_, rfl, ?_⟩))
          go_loopg [8] kj3 (fun kq v8 w' => ∃ (x8_2 : Int), v8 = .int .i64 x8_2 ∧ Aside0 (zoneinforef20_Block.l0 kq a1 a2 (l0_2.length : Int) x8_2 l0_0 l0_1 l0_2 l0_3 l0_4 l0_5 l0_6 = some r) ∧ Aside0 (kq ≤ kj3) ∧ Aside0 (w'.heap[gb195]? = some (.cells #[(.slice A0_0 l0_0.length c0_0), (.slice A0_1 l0_1.length c0_1), (.slice A0_2 l0_2.length c0_2), (.slice A0_3 l0_3.length c0_3), (.slice A0_4 l0_4.length c0_4), (.slice A0_5 l0_5.length c0_5), (.slice A0_6 l0_6.length c0_6)] 28 (0, 0))) ∧ Aside0 (Below w.heap.size w w'))
          case atStart => exact ⟨(0), (by first | rfl | (simp; done) | (simp [*]; done)), H', ⟨Nat.le_refl _⟩, ⟨by (with_reducible repeat (first | refine blk_drewN ?_ _ | refine blk_drew ?_ | refine blk_alloc ?_ _)); exact BK195.out⟩, ⟨by repeat (first | (with_reducible first | exact HB.out | apply below_alloc | apply pw_below_drewN | apply below_drew1 | refine below_set ?_ GE195.out) | exact HB.out)⟩⟩
          case round =>
            clear H'; (try clear c1); (try clear c2); (try clear p2); (try clear c7); (try clear c7b0); (try clear c7b1); (try clear c7b2); (try clear c8); (try clear c8b0); (try clear c8b1); (try clear c8b2); (try clear c10); (try clear c10b0); (try clear c10b1); (try clear c10b2); (try clear c12); (try clear c12b0); (try clear c12b1); (try clear c12b2); (try clear c13); (try clear c13b0); (try clear c13b1); (try clear c13b2); (try clear c16); (try clear c16b0); (try clear c16b1); (try clear c16b2); (try clear c17); (try clear c17b0); (try clear c17b1); (try clear c17b2); (try clear c22); (try clear c24); (try clear hcz11_0); (try clear hcz11_1); (try clear hcz11_2); (try clear hcz11_3); (try clear hcz11_4); (try clear hcz11_5); (try clear hcz11_6); (try clear hcz14_0); (try clear hcz14_1); (try clear hcz14_2); (try clear hcz14_3); (try clear hcz14_4); (try clear hcz14_5); (try clear hcz14_6); (try clear hcz15_0); (try clear hcz15_1); (try clear hcz15_2); (try clear hcz15_3); (try clear hcz15_4); (try clear hcz15_5); (try clear hcz15_6); (try clear hcz18_0); (try clear hcz18_1); (try clear hcz18_2); (try clear hcz18_3); (try clear hcz18_4); (try clear hcz18_5); (try clear hcz18_6); (try clear hcz19_0); (try clear hcz19_1); (try clear hcz19_2); (try clear hcz19_3); (try clear hcz19_4); (try clear hcz19_5); (try clear hcz19_6); (try clear hcz20_0); (try clear hcz20_1); (try clear hcz20_2); (try clear hcz20_3); (try clear hcz20_4); (try clear hcz20_5); (try clear hcz20_6); (try clear hcz21_0); (try clear hcz21_1); (try clear hcz21_2); (try clear hcz21_3); (try clear hcz21_4); (try clear hcz21_5); (try clear hcz21_6); (try clear hcz25_0); (try clear hcz25_1); (try clear hcz25_2); (try clear hcz25_3); (try clear hcz25_4); (try clear hcz25_5); (try clear hcz25_6); (try clear hcz6_0); (try clear hcz6_1); (try clear hcz6_2); (try clear hcz6_3); (try clear hcz6_4); (try clear hcz6_5); (try clear hcz6_6); (try clear hcz9_0); (try clear hcz9_1); (try clear hcz9_2); (try clear hcz9_3); (try clear hcz9_4); (try clear hcz9_5); (try clear hcz9_6); (try clear hfz11_0); (try clear hfz11_1); (try clear hfz11_2); (try clear hfz11_3); (try clear hfz11_4); (try clear hfz11_5); (try clear hfz11_6); (try clear hfz14_0); (try clear hfz14_1); (try clear hfz14_2); (try clear hfz14_3); (try clear hfz14_4); (try clear hfz14_5); (try clear hfz14_6); (try clear hfz15_0); (try clear hfz15_1); (try clear hfz15_2); (try clear hfz15_3); (try clear hfz15_4); (try clear hfz15_5); (try clear hfz15_6); (try clear hfz18_0); (try clear hfz18_1); (try clear hfz18_2); (try clear hfz18_3); (try clear hfz18_4); (try clear hfz18_5); (try clear hfz18_6); (try clear hfz19_0); (try clear hfz19_1); (try clear hfz19_2); (try clear hfz19_3); (try clear hfz19_4); (try clear hfz19_5); (try clear hfz19_6); (try clear hfz20_0); (try clear hfz20_1); (try clear hfz20_2); (try clear hfz20_3); (try clear hfz20_4); (try clear hfz20_5); (try clear hfz20_6); (try clear hfz21_0); (try clear hfz21_1); (try clear hfz21_2); (try clear hfz21_3); (try clear hfz21_4); (try clear hfz21_5); (try clear hfz21_6); (try clear hfz25_0); (try clear hfz25_1); (try clear hfz25_2); (try clear hfz25_3); (try clear hfz25_4); (try clear hfz25_5); (try clear hfz25_6); (try clear hfz6_0); (try clear hfz6_1); (try clear hfz6_2); (try clear hfz6_3); (try clear hfz6_4); (try clear hfz6_5); (try clear hfz6_6); (try clear hfz9_0); (try clear hfz9_1); (try clear hfz9_2); (try clear hfz9_3); (try clear hfz9_4); (try clear hfz9_5); (try clear hfz9_6); (try clear p2); obtain ⟨x8_2, rfl, HA, HK2, BK195, HB⟩ := hrel
            cases gk with
            | zero => exact absurd HA.out (by simp [zoneinforef20_Block.l0])
            | succ k2 =>
              have H := HA.out; clear HA
              simp only [zoneinforef20_Block.l0] at H
              by_cases c26 : x8_2 < (l0_4.length : Int)
              · rw [if_pos c26] at H
                have c26b0 : decide (x8_2 < (l0_4.length : Int)) = true := decide_eq_true c26
                clear c26
                by_cases c27 : 0 ≤ x8_2
                · rw [if_pos c27] at H
                  have c27b0 : decide (0 ≤ x8_2) = true := decide_eq_true c27
                  clear c27; replace H := Option.bind_eq_some_iff.mp H; obtain ⟨t198, A280, H⟩ := H
                  replace H : (if t198 = true then (zoneinforef20_Block.l0 k2 a1 a2 (l0_2.length : Int) (wrap64 (x8_2 + 1)) l0_0 l0_1 l0_2 l0_3 l0_4 l0_5 l0_6) else (some 18)) = some r := H
                  have A28 := Aside0.mk A280; clear A280
                  by_cases c29 : t198 = true
                  · subst c29
                    have H1 : (zoneinforef20_Block.l0 k2 a1 a2 (l0_2.length : Int) (wrap64 (x8_2 + 1)) l0_0 l0_1 l0_2 l0_3 l0_4 l0_5 l0_6) = some r := by rw [if_pos rfl] at H; exact H
                    clear H; have H := H1; clear H1; have H' := Aside0.mk H; clear H
                    have hcz30_0 : wr.cell? ⟨gb195, 0, none⟩ = some (.slice A0_0 l0_0.length c0_0) := (blk_cell BK195.out 0).trans rfl
                    have hcz30_1 : wr.cell? ⟨gb195, 1, none⟩ = some (.slice A0_1 l0_1.length c0_1) := (blk_cell BK195.out 1).trans rfl
                    have hcz30_2 : wr.cell? ⟨gb195, 2, none⟩ = some (.slice A0_2 l0_2.length c0_2) := (blk_cell BK195.out 2).trans rfl
                    have hcz30_3 : wr.cell? ⟨gb195, 3, none⟩ = some (.slice A0_3 l0_3.length c0_3) := (blk_cell BK195.out 3).trans rfl
                    have hcz30_4 : wr.cell? ⟨gb195, 4, none⟩ = some (.slice A0_4 l0_4.length c0_4) := (blk_cell BK195.out 4).trans rfl
                    have hcz30_5 : wr.cell? ⟨gb195, 5, none⟩ = some (.slice A0_5 l0_5.length c0_5) := (blk_cell BK195.out 5).trans rfl
                    have hcz30_6 : wr.cell? ⟨gb195, 6, none⟩ = some (.slice A0_6 l0_6.length c0_6) := (blk_cell BK195.out 6).trans rfl
                    have hfz30_0 := blk_frozen BK195.out 0; have hfz30_1 := blk_frozen BK195.out 1; have hfz30_2 := blk_frozen BK195.out 2; have hfz30_3 := blk_frozen BK195.out 3; have hfz30_4 := blk_frozen BK195.out 4; have hfz30_5 := blk_frozen BK195.out 5; have hfz30_6 := blk_frozen BK195.out 6
                    have p197 : 0 ≤ (x8_2 : Int) := of_decide_eq_true (by first | (with_reducible assumption) | assumption)
                    have q197 : x8_2 < (l0_4.length : Int) := of_decide_eq_true (by first | (with_reducible assumption) | assumption)
                    obtain ⟨ad197, e197, hx197_0, hx197_1⟩ := at_T55 HR0_4.out x8_2 p197 q197
                    cases e197
                    replace hx197_0 := (HB.out.cell (World.block_lt_of_cell? w _ hx197_0)).trans hx197_0; replace hx197_1 := (HB.out.cell (World.block_lt_of_cell? w _ hx197_1)).trans hx197_1; replace p197 := eq_true p197; replace q197 := eq_true q197
                    go_wp2_with (first | ((with_reducible refine gate_callee (f := 28) rfl ?_); refine goesL_ (some 76) rfl rfl Try.func28 (by kernel_rfl) rfl #[.int .i64 ((rd_T55 l0_4 x8_2).f0), .int .i64 a2] rfl (by (try simp only [List.map_toArray, List.map_cons, List.map_nil]); first | done | rfl | (simp only [List.length_drop, List.length_take]; rfl)) ?_; (with_reducible refine (zoneinforef01_Fits.calls k2 ((rd_T55 l0_4 x8_2).f0) a2 true _ A28.out).mono ?_); rintro e w' ⟨rfl, ⟨nd, rfl⟩⟩; refine ⟨_, rfl, ?_⟩))
                    go_roundg k2
                    case measure => have := HJ3.out; have := HK2.out; omega
                    case rel => exact ⟨(wrap64 (x8_2 + 1)), (by first | rfl | (simp; done) | (simp [*]; done)), H', ⟨by have := HJ3.out; have := HK2.out; omega⟩, ⟨by (with_reducible repeat (first | refine blk_drewN ?_ _ | refine blk_drew ?_ | refine blk_alloc ?_ _)); exact BK195.out⟩, ⟨by repeat (first | (with_reducible first | exact HB.out | apply below_alloc | apply pw_below_drewN | apply below_drew1 | refine below_set ?_ GE195.out) | exact HB.out)⟩⟩
                  · replace c29 := Bool.eq_false_iff.mpr c29
                    subst c29
                    have H1 : (some 18) = some r := by rw [if_neg (show ¬ (false = true) by decide)] at H; exact H
                    clear H; have H := H1; clear H1
                    obtain rfl := Option.some.inj H
                    have hcz31_0 : wr.cell? ⟨gb195, 0, none⟩ = some (.slice A0_0 l0_0.length c0_0) := (blk_cell BK195.out 0).trans rfl
                    have hcz31_1 : wr.cell? ⟨gb195, 1, none⟩ = some (.slice A0_1 l0_1.length c0_1) := (blk_cell BK195.out 1).trans rfl
                    have hcz31_2 : wr.cell? ⟨gb195, 2, none⟩ = some (.slice A0_2 l0_2.length c0_2) := (blk_cell BK195.out 2).trans rfl
                    have hcz31_3 : wr.cell? ⟨gb195, 3, none⟩ = some (.slice A0_3 l0_3.length c0_3) := (blk_cell BK195.out 3).trans rfl
                    have hcz31_4 : wr.cell? ⟨gb195, 4, none⟩ = some (.slice A0_4 l0_4.length c0_4) := (blk_cell BK195.out 4).trans rfl
                    have hcz31_5 : wr.cell? ⟨gb195, 5, none⟩ = some (.slice A0_5 l0_5.length c0_5) := (blk_cell BK195.out 5).trans rfl
                    have hcz31_6 : wr.cell? ⟨gb195, 6, none⟩ = some (.slice A0_6 l0_6.length c0_6) := (blk_cell BK195.out 6).trans rfl
                    have hfz31_0 := blk_frozen BK195.out 0; have hfz31_1 := blk_frozen BK195.out 1; have hfz31_2 := blk_frozen BK195.out 2; have hfz31_3 := blk_frozen BK195.out 3; have hfz31_4 := blk_frozen BK195.out 4; have hfz31_5 := blk_frozen BK195.out 5; have hfz31_6 := blk_frozen BK195.out 6
                    have p197 : 0 ≤ (x8_2 : Int) := of_decide_eq_true (by first | (with_reducible assumption) | assumption)
                    have q197 : x8_2 < (l0_4.length : Int) := of_decide_eq_true (by first | (with_reducible assumption) | assumption)
                    obtain ⟨ad197, e197, hx197_0, hx197_1⟩ := at_T55 HR0_4.out x8_2 p197 q197
                    cases e197
                    replace hx197_0 := (HB.out.cell (World.block_lt_of_cell? w _ hx197_0)).trans hx197_0; replace hx197_1 := (HB.out.cell (World.block_lt_of_cell? w _ hx197_1)).trans hx197_1; replace p197 := eq_true p197; replace q197 := eq_true q197
                    go_wp2_with (first | ((with_reducible refine gate_callee (f := 28) rfl ?_); refine goesL_ (some 76) rfl rfl Try.func28 (by kernel_rfl) rfl #[.int .i64 ((rd_T55 l0_4 x8_2).f0), .int .i64 a2] rfl (by (try simp only [List.map_toArray, List.map_cons, List.map_nil]); first | done | rfl | (simp only [List.length_drop, List.length_take]; rfl)) ?_; (with_reducible refine (zoneinforef01_Fits.calls k2 ((rd_T55 l0_4 x8_2).f0) a2 false _ A28.out).mono ?_); rintro e w' ⟨rfl, ⟨nd, rfl⟩⟩; refine ⟨_, rfl, ?_⟩))
                    go_ret
                    exact ⟨by first | rfl | (simp [errW_none, errW_some] <;> rfl) | (simp [*, errW_none, errW_some] <;> rfl), by repeat (first | (with_reducible first | exact HB.out | apply below_alloc | apply pw_below_drewN | apply below_drew1 | refine below_set ?_ GE195.out) | exact HB.out)⟩
                · rw [if_neg c27] at H
                  exact absurd H (by simp)
              · rw [if_neg c26] at H
                have c26b0 : decide (x8_2 < (l0_4.length : Int)) = false := decide_eq_false c26
                clear c26; replace H := Option.bind_eq_some_iff.mp H; obtain ⟨t199, A320, H⟩ := H
                replace H : (if t199 = (-1) then (zoneinforef20_Block.l1 k2 a1 (l0_2.length : Int) 0 l0_0 l0_1 l0_2 l0_3 l0_4 l0_5 l0_6) else (some 7)) = some r := H
                have A32 := Aside0.mk A320; clear A320
                by_cases c33 : t199 = (-1)
                · rw [if_pos c33] at H
                  have c33b0 : (t199 == (-1)) = true := beq_iff_eq.mpr c33
                  have c33b1 : (t199 != (-1)) = false := bne_eq_false_iff_eq.mpr c33
                  clear c33; have H' := Aside0.mk H; clear H
                  have hcz34_0 : wr.cell? ⟨gb195, 0, none⟩ = some (.slice A0_0 l0_0.length c0_0) := (blk_cell BK195.out 0).trans rfl
                  have hcz34_1 : wr.cell? ⟨gb195, 1, none⟩ = some (.slice A0_1 l0_1.length c0_1) := (blk_cell BK195.out 1).trans rfl
                  have hcz34_2 : wr.cell? ⟨gb195, 2, none⟩ = some (.slice A0_2 l0_2.length c0_2) := (blk_cell BK195.out 2).trans rfl
                  have hcz34_3 : wr.cell? ⟨gb195, 3, none⟩ = some (.slice A0_3 l0_3.length c0_3) := (blk_cell BK195.out 3).trans rfl
                  have hcz34_4 : wr.cell? ⟨gb195, 4, none⟩ = some (.slice A0_4 l0_4.length c0_4) := (blk_cell BK195.out 4).trans rfl
                  have hcz34_5 : wr.cell? ⟨gb195, 5, none⟩ = some (.slice A0_5 l0_5.length c0_5) := (blk_cell BK195.out 5).trans rfl
                  have hcz34_6 : wr.cell? ⟨gb195, 6, none⟩ = some (.slice A0_6 l0_6.length c0_6) := (blk_cell BK195.out 6).trans rfl
                  have hfz34_0 := blk_frozen BK195.out 0; have hfz34_1 := blk_frozen BK195.out 1; have hfz34_2 := blk_frozen BK195.out 2; have hfz34_3 := blk_frozen BK195.out 3; have hfz34_4 := blk_frozen BK195.out 4; have hfz34_5 := blk_frozen BK195.out 5; have hfz34_6 := blk_frozen BK195.out 6
                  go_wp2_with (first | ((with_reducible refine gate_callee (f := 18) rfl ?_); refine goesL_ (some 80) rfl rfl Try.func18 (by kernel_rfl) rfl #[.slice A0_0 l0_0.length c0_0] rfl (by (try simp only [List.map_toArray, List.map_cons, List.map_nil]); first | done | rfl | (simp only [List.length_drop, List.length_take]; rfl)) ?_; (with_reducible refine (zoneinforef15_Descent.calls k2 _ _ l0_0 t199 _ ?side1 ?side2 A32.out).mono ?_); (case side1 => repeat (first | exact (Kd.C_below HR0_0.out HB.out) | (with_reducible refine Kd.C_alloc ?_ _) | (with_reducible refine Kd.C_drewN ?_ _) | (with_reducible refine Kd.C_drew ?_))); (case side2 => exact HC0_0.out); rintro e w' ⟨rfl, ⟨nd, rfl⟩⟩; refine ⟨_, rfl, ?_⟩))
                  go_loopg [9] k2 (fun kq v9 w' => ∃ (x9_3 : Int), v9 = .int .i64 x9_3 ∧ Aside0 (zoneinforef20_Block.l1 kq a1 (l0_2.length : Int) x9_3 l0_0 l0_1 l0_2 l0_3 l0_4 l0_5 l0_6 = some r) ∧ Aside0 (kq ≤ k2) ∧ Aside0 (w'.heap[gb195]? = some (.cells #[(.slice A0_0 l0_0.length c0_0), (.slice A0_1 l0_1.length c0_1), (.slice A0_2 l0_2.length c0_2), (.slice A0_3 l0_3.length c0_3), (.slice A0_4 l0_4.length c0_4), (.slice A0_5 l0_5.length c0_5), (.slice A0_6 l0_6.length c0_6)] 28 (0, 0))) ∧ Aside0 (Below w.heap.size w w'))
                  case atStart => exact ⟨(0), (by first | rfl | (simp; done) | (simp [*]; done)), H', ⟨Nat.le_refl _⟩, ⟨by (with_reducible repeat (first | refine blk_drewN ?_ _ | refine blk_drew ?_ | refine blk_alloc ?_ _)); exact BK195.out⟩, ⟨by repeat (first | (with_reducible first | exact HB.out | apply below_alloc | apply pw_below_drewN | apply below_drew1 | refine below_set ?_ GE195.out) | exact HB.out)⟩⟩
                  case round =>
                    clear H'; (try clear c1); (try clear p1); (try clear q1); (try clear hx1); (try clear c2); (try clear p2); (try clear c3); (try clear p6); (try clear c7); (try clear c7b0); (try clear c7b1); (try clear c7b2); (try clear c8); (try clear c8b0); (try clear c8b1); (try clear c8b2); (try clear c10); (try clear c10b0); (try clear c10b1); (try clear c10b2); (try clear c12); (try clear c12b0); (try clear c12b1); (try clear c12b2); (try clear c13); (try clear c13b0); (try clear c13b1); (try clear c13b2); (try clear c16); (try clear c16b0); (try clear c16b1); (try clear c16b2); (try clear c17); (try clear c17b0); (try clear c17b1); (try clear c17b2); (try clear c18); (try clear p19); (try clear q19); (try clear hx19); (try clear c22); (try clear c24); (try clear c26); (try clear c26b0); (try clear c27); (try clear c27b0); (try clear c28); (try clear c29); (try clear c33); (try clear c33b0); (try clear c33b1); (try clear hcz11_0); (try clear hcz11_1); (try clear hcz11_2); (try clear hcz11_3); (try clear hcz11_4); (try clear hcz11_5); (try clear hcz11_6); (try clear hcz14_0); (try clear hcz14_1); (try clear hcz14_2); (try clear hcz14_3); (try clear hcz14_4); (try clear hcz14_5); (try clear hcz14_6); (try clear hcz15_0); (try clear hcz15_1); (try clear hcz15_2); (try clear hcz15_3); (try clear hcz15_4); (try clear hcz15_5); (try clear hcz15_6); (try clear hcz18_0); (try clear hcz18_1); (try clear hcz18_2); (try clear hcz18_3); (try clear hcz18_4); (try clear hcz18_5); (try clear hcz18_6); (try clear hcz19_0); (try clear hcz19_1); (try clear hcz19_2); (try clear hcz19_3); (try clear hcz19_4); (try clear hcz19_5); (try clear hcz19_6); (try clear hcz20_0); (try clear hcz20_1); (try clear hcz20_2); (try clear hcz20_3); (try clear hcz20_4); (try clear hcz20_5); (try clear hcz20_6); (try clear hcz21_0); (try clear hcz21_1); (try clear hcz21_2); (try clear hcz21_3); (try clear hcz21_4); (try clear hcz21_5); (try clear hcz21_6); (try clear hcz25_0); (try clear hcz25_1); (try clear hcz25_2); (try clear hcz25_3); (try clear hcz25_4); (try clear hcz25_5); (try clear hcz25_6); (try clear hcz30_0); (try clear hcz30_1); (try clear hcz30_2); (try clear hcz30_3); (try clear hcz30_4); (try clear hcz30_5); (try clear hcz30_6); (try clear hcz31_0); (try clear hcz31_1); (try clear hcz31_2); (try clear hcz31_3); (try clear hcz31_4); (try clear hcz31_5); (try clear hcz31_6); (try clear hcz34_0); (try clear hcz34_1); (try clear hcz34_2); (try clear hcz34_3); (try clear hcz34_4); (try clear hcz34_5); (try clear hcz34_6); (try clear hcz6_0); (try clear hcz6_1); (try clear hcz6_2); (try clear hcz6_3); (try clear hcz6_4); (try clear hcz6_5); (try clear hcz6_6); (try clear hcz9_0); (try clear hcz9_1); (try clear hcz9_2); (try clear hcz9_3); (try clear hcz9_4); (try clear hcz9_5); (try clear hcz9_6); (try clear hfz11_0); (try clear hfz11_1); (try clear hfz11_2); (try clear hfz11_3); (try clear hfz11_4); (try clear hfz11_5); (try clear hfz11_6); (try clear hfz14_0); (try clear hfz14_1); (try clear hfz14_2); (try clear hfz14_3); (try clear hfz14_4); (try clear hfz14_5); (try clear hfz14_6); (try clear hfz15_0); (try clear hfz15_1); (try clear hfz15_2); (try clear hfz15_3); (try clear hfz15_4); (try clear hfz15_5); (try clear hfz15_6); (try clear hfz18_0); (try clear hfz18_1); (try clear hfz18_2); (try clear hfz18_3); (try clear hfz18_4); (try clear hfz18_5); (try clear hfz18_6); (try clear hfz19_0); (try clear hfz19_1); (try clear hfz19_2); (try clear hfz19_3); (try clear hfz19_4); (try clear hfz19_5); (try clear hfz19_6); (try clear hfz20_0); (try clear hfz20_1); (try clear hfz20_2); (try clear hfz20_3); (try clear hfz20_4); (try clear hfz20_5); (try clear hfz20_6); (try clear hfz21_0); (try clear hfz21_1); (try clear hfz21_2); (try clear hfz21_3); (try clear hfz21_4); (try clear hfz21_5); (try clear hfz21_6); (try clear hfz25_0); (try clear hfz25_1); (try clear hfz25_2); (try clear hfz25_3); (try clear hfz25_4); (try clear hfz25_5); (try clear hfz25_6); (try clear hfz30_0); (try clear hfz30_1); (try clear hfz30_2); (try clear hfz30_3); (try clear hfz30_4); (try clear hfz30_5); (try clear hfz30_6); (try clear hfz31_0); (try clear hfz31_1); (try clear hfz31_2); (try clear hfz31_3); (try clear hfz31_4); (try clear hfz31_5); (try clear hfz31_6); (try clear hfz34_0); (try clear hfz34_1); (try clear hfz34_2); (try clear hfz34_3); (try clear hfz34_4); (try clear hfz34_5); (try clear hfz34_6); (try clear hfz6_0); (try clear hfz6_1); (try clear hfz6_2); (try clear hfz6_3); (try clear hfz6_4); (try clear hfz6_5); (try clear hfz6_6); (try clear hfz9_0); (try clear hfz9_1); (try clear hfz9_2); (try clear hfz9_3); (try clear hfz9_4); (try clear hfz9_5); (try clear hfz9_6); (try clear hx197_0); (try clear hx197_1); (try clear p197); (try clear p2); (try clear q197); obtain ⟨x9_3, rfl, HA, HK3, BK195, HB⟩ := hrel
                    cases gk with
                    | zero => exact absurd HA.out (by simp [zoneinforef20_Block.l1])
                    | succ k3 =>
                      have H := HA.out; clear HA
                      simp only [zoneinforef20_Block.l1] at H
                      by_cases c35 : x9_3 < (l0_1.length : Int)
                      · rw [if_pos c35] at H
                        have c35b0 : decide (x9_3 < (l0_1.length : Int)) = true := decide_eq_true c35
                        clear c35
                        by_cases c36 : 0 ≤ x9_3
                        · rw [if_pos c36] at H
                          have c36b0 : decide (0 ≤ x9_3) = true := decide_eq_true c36
                          clear c36
                          by_cases c37 : (wrap64 (rd l0_1 x9_3)) ≥ (l0_2.length : Int)
                          · rw [if_pos c37] at H
                            have c37b0 : decide ((l0_2.length : Int) ≤ (wrap64 (rd l0_1 x9_3))) = true := decide_eq_true c37
                            clear c37
                            obtain rfl := Option.some.inj H
                            have hcz38_0 : wr.cell? ⟨gb195, 0, none⟩ = some (.slice A0_0 l0_0.length c0_0) := (blk_cell BK195.out 0).trans rfl
                            have hcz38_1 : wr.cell? ⟨gb195, 1, none⟩ = some (.slice A0_1 l0_1.length c0_1) := (blk_cell BK195.out 1).trans rfl
                            have hcz38_2 : wr.cell? ⟨gb195, 2, none⟩ = some (.slice A0_2 l0_2.length c0_2) := (blk_cell BK195.out 2).trans rfl
                            have hcz38_3 : wr.cell? ⟨gb195, 3, none⟩ = some (.slice A0_3 l0_3.length c0_3) := (blk_cell BK195.out 3).trans rfl
                            have hcz38_4 : wr.cell? ⟨gb195, 4, none⟩ = some (.slice A0_4 l0_4.length c0_4) := (blk_cell BK195.out 4).trans rfl
                            have hcz38_5 : wr.cell? ⟨gb195, 5, none⟩ = some (.slice A0_5 l0_5.length c0_5) := (blk_cell BK195.out 5).trans rfl
                            have hcz38_6 : wr.cell? ⟨gb195, 6, none⟩ = some (.slice A0_6 l0_6.length c0_6) := (blk_cell BK195.out 6).trans rfl
                            have hfz38_0 := blk_frozen BK195.out 0; have hfz38_1 := blk_frozen BK195.out 1; have hfz38_2 := blk_frozen BK195.out 2; have hfz38_3 := blk_frozen BK195.out 3; have hfz38_4 := blk_frozen BK195.out 4; have hfz38_5 := blk_frozen BK195.out 5; have hfz38_6 := blk_frozen BK195.out 6
                            have p200 : 0 ≤ (x9_3 : Int) := of_decide_eq_true (by first | (with_reducible assumption) | assumption)
                            have q200 : x9_3 < (l0_1.length : Int) := of_decide_eq_true (by first | (with_reducible assumption) | assumption)
                            obtain ⟨ad200, e200, hx200_0⟩ := Kd.at_int HR0_1.out x9_3 p200 q200
                            cases e200
                            replace hx200_0 := (HB.out.cell (World.block_lt_of_cell? w _ hx200_0)).trans hx200_0; replace p200 := eq_true p200; replace q200 := eq_true q200; go_wp2
                            go_ret
                            exact ⟨by first | rfl | (simp [errW_none, errW_some] <;> rfl) | (simp [*, errW_none, errW_some] <;> rfl), by repeat (first | (with_reducible first | exact HB.out | apply below_alloc | apply pw_below_drewN | apply below_drew1 | refine below_set ?_ GE195.out) | exact HB.out)⟩
                          · rw [if_neg c37] at H
                            have c37b0 : decide ((l0_2.length : Int) ≤ (wrap64 (rd l0_1 x9_3))) = false := decide_eq_false c37
                            clear c37; have H' := Aside0.mk H; clear H
                            have hcz39_0 : wr.cell? ⟨gb195, 0, none⟩ = some (.slice A0_0 l0_0.length c0_0) := (blk_cell BK195.out 0).trans rfl
                            have hcz39_1 : wr.cell? ⟨gb195, 1, none⟩ = some (.slice A0_1 l0_1.length c0_1) := (blk_cell BK195.out 1).trans rfl
                            have hcz39_2 : wr.cell? ⟨gb195, 2, none⟩ = some (.slice A0_2 l0_2.length c0_2) := (blk_cell BK195.out 2).trans rfl
                            have hcz39_3 : wr.cell? ⟨gb195, 3, none⟩ = some (.slice A0_3 l0_3.length c0_3) := (blk_cell BK195.out 3).trans rfl
                            have hcz39_4 : wr.cell? ⟨gb195, 4, none⟩ = some (.slice A0_4 l0_4.length c0_4) := (blk_cell BK195.out 4).trans rfl
                            have hcz39_5 : wr.cell? ⟨gb195, 5, none⟩ = some (.slice A0_5 l0_5.length c0_5) := (blk_cell BK195.out 5).trans rfl
                            have hcz39_6 : wr.cell? ⟨gb195, 6, none⟩ = some (.slice A0_6 l0_6.length c0_6) := (blk_cell BK195.out 6).trans rfl
                            have hfz39_0 := blk_frozen BK195.out 0; have hfz39_1 := blk_frozen BK195.out 1; have hfz39_2 := blk_frozen BK195.out 2; have hfz39_3 := blk_frozen BK195.out 3; have hfz39_4 := blk_frozen BK195.out 4; have hfz39_5 := blk_frozen BK195.out 5; have hfz39_6 := blk_frozen BK195.out 6
                            have p200 : 0 ≤ (x9_3 : Int) := of_decide_eq_true (by first | (with_reducible assumption) | assumption)
                            have q200 : x9_3 < (l0_1.length : Int) := of_decide_eq_true (by first | (with_reducible assumption) | assumption)
                            obtain ⟨ad200, e200, hx200_0⟩ := Kd.at_int HR0_1.out x9_3 p200 q200
                            cases e200
                            replace hx200_0 := (HB.out.cell (World.block_lt_of_cell? w _ hx200_0)).trans hx200_0; replace p200 := eq_true p200; replace q200 := eq_true q200; go_wp2
                            go_roundg k3
                            case measure => have := HJ3.out; have := HK2.out; have := HK3.out; omega
                            case rel => exact ⟨(wrap64 (x9_3 + 1)), (by first | rfl | (simp; done) | (simp [*]; done)), H', ⟨by have := HJ3.out; have := HK2.out; have := HK3.out; omega⟩, ⟨by (with_reducible repeat (first | refine blk_drewN ?_ _ | refine blk_drew ?_ | refine blk_alloc ?_ _)); exact BK195.out⟩, ⟨by repeat (first | (with_reducible first | exact HB.out | apply below_alloc | apply pw_below_drewN | apply below_drew1 | refine below_set ?_ GE195.out) | exact HB.out)⟩⟩
                        · rw [if_neg c36] at H
                          exact absurd H (by simp)
                      · rw [if_neg c35] at H
                        have c35b0 : decide (x9_3 < (l0_1.length : Int)) = false := decide_eq_false c35
                        clear c35; replace H := Option.bind_eq_some_iff.mp H; obtain ⟨t201, A400, H⟩ := H
                        replace H : (if t201 = 0 then ((zoneinforef12_Valid.f k3 l0_3).bind fun t202 => (if t202 = true then ((zoneinforef17_Valid.f k3 l0_4 a1).bind fun t203 => (if t203 = true then ((zoneinforef18_Consistent.f k3 l0_5 l0_6).bind fun t204 => (if t204 = true then (some 0) else (some 13))) else (some 12))) else (some 11))) else (some t201)) = some r := H
                        have A40 := Aside0.mk A400; clear A400
                        by_cases c41 : t201 = 0
                        · rw [if_pos c41] at H
                          have c41b0 : (t201 == 0) = true := beq_iff_eq.mpr c41
                          have c41b1 : (t201 != 0) = false := bne_eq_false_iff_eq.mpr c41
                          clear c41; replace H := Option.bind_eq_some_iff.mp H; obtain ⟨t202, A420, H⟩ := H
                          replace H : (if t202 = true then ((zoneinforef17_Valid.f k3 l0_4 a1).bind fun t203 => (if t203 = true then ((zoneinforef18_Consistent.f k3 l0_5 l0_6).bind fun t204 => (if t204 = true then (some 0) else (some 13))) else (some 12))) else (some 11)) = some r := H
                          have A42 := Aside0.mk A420; clear A420
                          by_cases c43 : t202 = true
                          · subst c43
                            have H1 : ((zoneinforef17_Valid.f k3 l0_4 a1).bind fun t203 => (if t203 = true then ((zoneinforef18_Consistent.f k3 l0_5 l0_6).bind fun t204 => (if t204 = true then (some 0) else (some 13))) else (some 12))) = some r := by rw [if_pos rfl] at H; exact H
                            clear H; have H := H1; clear H1; replace H := Option.bind_eq_some_iff.mp H; obtain ⟨t203, A440, H⟩ := H
                            replace H : (if t203 = true then ((zoneinforef18_Consistent.f k3 l0_5 l0_6).bind fun t204 => (if t204 = true then (some 0) else (some 13))) else (some 12)) = some r := H
                            have A44 := Aside0.mk A440; clear A440
                            by_cases c45 : t203 = true
                            · subst c45
                              have H1 : ((zoneinforef18_Consistent.f k3 l0_5 l0_6).bind fun t204 => (if t204 = true then (some 0) else (some 13))) = some r := by rw [if_pos rfl] at H; exact H
                              clear H; have H := H1; clear H1; replace H := Option.bind_eq_some_iff.mp H; obtain ⟨t204, A460, H⟩ := H
                              replace H : (if t204 = true then (some 0) else (some 13)) = some r := H
                              have A46 := Aside0.mk A460; clear A460
                              by_cases c47 : t204 = true
                              · subst c47
                                have H1 : (some 0) = some r := by rw [if_pos rfl] at H; exact H
                                clear H; have H := H1; clear H1
                                obtain rfl := Option.some.inj H
                                have hcz48_0 : wr.cell? ⟨gb195, 0, none⟩ = some (.slice A0_0 l0_0.length c0_0) := (blk_cell BK195.out 0).trans rfl
                                have hcz48_1 : wr.cell? ⟨gb195, 1, none⟩ = some (.slice A0_1 l0_1.length c0_1) := (blk_cell BK195.out 1).trans rfl
                                have hcz48_2 : wr.cell? ⟨gb195, 2, none⟩ = some (.slice A0_2 l0_2.length c0_2) := (blk_cell BK195.out 2).trans rfl
                                have hcz48_3 : wr.cell? ⟨gb195, 3, none⟩ = some (.slice A0_3 l0_3.length c0_3) := (blk_cell BK195.out 3).trans rfl
                                have hcz48_4 : wr.cell? ⟨gb195, 4, none⟩ = some (.slice A0_4 l0_4.length c0_4) := (blk_cell BK195.out 4).trans rfl
                                have hcz48_5 : wr.cell? ⟨gb195, 5, none⟩ = some (.slice A0_5 l0_5.length c0_5) := (blk_cell BK195.out 5).trans rfl
                                have hcz48_6 : wr.cell? ⟨gb195, 6, none⟩ = some (.slice A0_6 l0_6.length c0_6) := (blk_cell BK195.out 6).trans rfl
                                have hfz48_0 := blk_frozen BK195.out 0; have hfz48_1 := blk_frozen BK195.out 1; have hfz48_2 := blk_frozen BK195.out 2; have hfz48_3 := blk_frozen BK195.out 3; have hfz48_4 := blk_frozen BK195.out 4; have hfz48_5 := blk_frozen BK195.out 5; have hfz48_6 := blk_frozen BK195.out 6
                                go_wp2_with (first | ((with_reducible refine gate_callee (f := 29) rfl ?_); refine goesL_ (some 102) rfl rfl Try.func29 (by kernel_rfl) rfl #[.slice A0_2 l0_2.length c0_2, .int .i64 (l0_3.length : Int)] rfl (by (try simp only [List.map_toArray, List.map_cons, List.map_nil]); first | done | rfl | (simp only [List.length_drop, List.length_take]; rfl)) ?_; (with_reducible refine (zoneinforef16_Check.calls k3 _ _ l0_2 (l0_3.length : Int) t201 _ ?side1 ?side2 A40.out).mono ?_); (case side1 => repeat (first | exact (Kd.C_below HR0_2.out HB.out) | (with_reducible refine Kd.C_alloc ?_ _) | (with_reducible refine Kd.C_drewN ?_ _) | (with_reducible refine Kd.C_drew ?_))); (case side2 => exact HC0_2.out); rintro e w' ⟨rfl, ⟨nd, rfl⟩⟩; refine ⟨_, rfl, ?_⟩) | ((with_reducible refine gate_callee (f := 30) rfl ?_); refine goesL_ (some 108) rfl rfl Try.func30 (by kernel_rfl) rfl #[.slice A0_3 l0_3.length c0_3] rfl (by (try simp only [List.map_toArray, List.map_cons, List.map_nil]); first | done | rfl | (simp only [List.length_drop, List.length_take]; rfl)) ?_; (with_reducible refine (zoneinforef12_Valid.calls k3 _ _ l0_3 true _ ?side1 ?side2 A42.out).mono ?_); (case side1 => repeat (first | exact (Kd.C_below HR0_3.out (by repeat (first | (with_reducible first | exact HB.out | apply below_alloc | apply pw_below_drewN | apply below_drew1 | refine below_set ?_ GE195.out) | exact HB.out))) | (with_reducible refine Kd.C_alloc ?_ _) | (with_reducible refine Kd.C_drewN ?_ _) | (with_reducible refine Kd.C_drew ?_))); (case side2 => exact HC0_3.out); rintro e w' ⟨rfl, ⟨nd, rfl⟩⟩; refine ⟨_, rfl, ?_⟩) | ((with_reducible refine gate_callee (f := 31) rfl ?_); refine goesL_ (some 113) rfl rfl Try.func31 (by kernel_rfl) rfl #[.slice A0_4 l0_4.length c0_4, .int .i64 a1] rfl (by (try simp only [List.map_toArray, List.map_cons, List.map_nil]); first | done | rfl | (simp only [List.length_drop, List.length_take]; rfl)) ?_; (with_reducible refine (zoneinforef17_Valid.calls k3 _ _ l0_4 a1 true _ ?side1 ?side2 A44.out).mono ?_); (case side1 => repeat (first | exact (Kd.C_below HR0_4.out (by repeat (first | (with_reducible first | exact HB.out | apply below_alloc | apply pw_below_drewN | apply below_drew1 | refine below_set ?_ GE195.out) | exact HB.out))) | (with_reducible refine Kd.C_alloc ?_ _) | (with_reducible refine Kd.C_drewN ?_ _) | (with_reducible refine Kd.C_drew ?_))); (case side2 => exact HC0_4.out); rintro e w' ⟨rfl, ⟨nd, rfl⟩⟩; refine ⟨_, rfl, ?_⟩) | ((with_reducible refine gate_callee (f := 32) rfl ?_); refine goesL_ (some 119) rfl rfl Try.func32 (by kernel_rfl) rfl #[.slice A0_5 l0_5.length c0_5, .slice A0_6 l0_6.length c0_6] rfl (by (try simp only [List.map_toArray, List.map_cons, List.map_nil]); first | done | rfl | (simp only [List.length_drop, List.length_take]; rfl)) ?_; (with_reducible refine (zoneinforef18_Consistent.calls k3 _ _ l0_5 _ _ l0_6 true _ ?side1 ?side2 ?side3 ?side4 A46.out).mono ?_); (case side1 => repeat (first | exact (Kd.C_below HR0_5.out (by repeat (first | (with_reducible first | exact HB.out | apply below_alloc | apply pw_below_drewN | apply below_drew1 | refine below_set ?_ GE195.out) | exact HB.out))) | (with_reducible refine Kd.C_alloc ?_ _) | (with_reducible refine Kd.C_drewN ?_ _) | (with_reducible refine Kd.C_drew ?_))); (case side2 => exact HC0_5.out); (case side3 => repeat (first | exact (Kd.C_below HR0_6.out (by repeat (first | (with_reducible first | exact HB.out | apply below_alloc | apply pw_below_drewN | apply below_drew1 | refine below_set ?_ GE195.out) | exact HB.out))) | (with_reducible refine Kd.C_alloc ?_ _) | (with_reducible refine Kd.C_drewN ?_ _) | (with_reducible refine Kd.C_drew ?_))); (case side4 => exact HC0_6.out); rintro e w' ⟨rfl, ⟨nd, rfl⟩⟩; refine ⟨_, rfl, ?_⟩))
                                go_ret
                                exact ⟨by first | rfl | (simp [errW_none, errW_some] <;> rfl) | (simp [*, errW_none, errW_some] <;> rfl), by repeat (first | (with_reducible first | exact HB.out | apply below_alloc | apply pw_below_drewN | apply below_drew1 | refine below_set ?_ GE195.out) | exact HB.out)⟩
                              · replace c47 := Bool.eq_false_iff.mpr c47
                                subst c47
                                have H1 : (some 13) = some r := by rw [if_neg (show ¬ (false = true) by decide)] at H; exact H
                                clear H; have H := H1; clear H1
                                obtain rfl := Option.some.inj H
                                have hcz49_0 : wr.cell? ⟨gb195, 0, none⟩ = some (.slice A0_0 l0_0.length c0_0) := (blk_cell BK195.out 0).trans rfl
                                have hcz49_1 : wr.cell? ⟨gb195, 1, none⟩ = some (.slice A0_1 l0_1.length c0_1) := (blk_cell BK195.out 1).trans rfl
                                have hcz49_2 : wr.cell? ⟨gb195, 2, none⟩ = some (.slice A0_2 l0_2.length c0_2) := (blk_cell BK195.out 2).trans rfl
                                have hcz49_3 : wr.cell? ⟨gb195, 3, none⟩ = some (.slice A0_3 l0_3.length c0_3) := (blk_cell BK195.out 3).trans rfl
                                have hcz49_4 : wr.cell? ⟨gb195, 4, none⟩ = some (.slice A0_4 l0_4.length c0_4) := (blk_cell BK195.out 4).trans rfl
                                have hcz49_5 : wr.cell? ⟨gb195, 5, none⟩ = some (.slice A0_5 l0_5.length c0_5) := (blk_cell BK195.out 5).trans rfl
                                have hcz49_6 : wr.cell? ⟨gb195, 6, none⟩ = some (.slice A0_6 l0_6.length c0_6) := (blk_cell BK195.out 6).trans rfl
                                have hfz49_0 := blk_frozen BK195.out 0; have hfz49_1 := blk_frozen BK195.out 1; have hfz49_2 := blk_frozen BK195.out 2; have hfz49_3 := blk_frozen BK195.out 3; have hfz49_4 := blk_frozen BK195.out 4; have hfz49_5 := blk_frozen BK195.out 5; have hfz49_6 := blk_frozen BK195.out 6
                                go_wp2_with (first | ((with_reducible refine gate_callee (f := 29) rfl ?_); refine goesL_ (some 102) rfl rfl Try.func29 (by kernel_rfl) rfl #[.slice A0_2 l0_2.length c0_2, .int .i64 (l0_3.length : Int)] rfl (by (try simp only [List.map_toArray, List.map_cons, List.map_nil]); first | done | rfl | (simp only [List.length_drop, List.length_take]; rfl)) ?_; (with_reducible refine (zoneinforef16_Check.calls k3 _ _ l0_2 (l0_3.length : Int) t201 _ ?side1 ?side2 A40.out).mono ?_); (case side1 => repeat (first | exact (Kd.C_below HR0_2.out HB.out) | (with_reducible refine Kd.C_alloc ?_ _) | (with_reducible refine Kd.C_drewN ?_ _) | (with_reducible refine Kd.C_drew ?_))); (case side2 => exact HC0_2.out); rintro e w' ⟨rfl, ⟨nd, rfl⟩⟩; refine ⟨_, rfl, ?_⟩) | ((with_reducible refine gate_callee (f := 30) rfl ?_); refine goesL_ (some 108) rfl rfl Try.func30 (by kernel_rfl) rfl #[.slice A0_3 l0_3.length c0_3] rfl (by (try simp only [List.map_toArray, List.map_cons, List.map_nil]); first | done | rfl | (simp only [List.length_drop, List.length_take]; rfl)) ?_; (with_reducible refine (zoneinforef12_Valid.calls k3 _ _ l0_3 true _ ?side1 ?side2 A42.out).mono ?_); (case side1 => repeat (first | exact (Kd.C_below HR0_3.out (by repeat (first | (with_reducible first | exact HB.out | apply below_alloc | apply pw_below_drewN | apply below_drew1 | refine below_set ?_ GE195.out) | exact HB.out))) | (with_reducible refine Kd.C_alloc ?_ _) | (with_reducible refine Kd.C_drewN ?_ _) | (with_reducible refine Kd.C_drew ?_))); (case side2 => exact HC0_3.out); rintro e w' ⟨rfl, ⟨nd, rfl⟩⟩; refine ⟨_, rfl, ?_⟩) | ((with_reducible refine gate_callee (f := 31) rfl ?_); refine goesL_ (some 113) rfl rfl Try.func31 (by kernel_rfl) rfl #[.slice A0_4 l0_4.length c0_4, .int .i64 a1] rfl (by (try simp only [List.map_toArray, List.map_cons, List.map_nil]); first | done | rfl | (simp only [List.length_drop, List.length_take]; rfl)) ?_; (with_reducible refine (zoneinforef17_Valid.calls k3 _ _ l0_4 a1 true _ ?side1 ?side2 A44.out).mono ?_); (case side1 => repeat (first | exact (Kd.C_below HR0_4.out (by repeat (first | (with_reducible first | exact HB.out | apply below_alloc | apply pw_below_drewN | apply below_drew1 | refine below_set ?_ GE195.out) | exact HB.out))) | (with_reducible refine Kd.C_alloc ?_ _) | (with_reducible refine Kd.C_drewN ?_ _) | (with_reducible refine Kd.C_drew ?_))); (case side2 => exact HC0_4.out); rintro e w' ⟨rfl, ⟨nd, rfl⟩⟩; refine ⟨_, rfl, ?_⟩) | ((with_reducible refine gate_callee (f := 32) rfl ?_); refine goesL_ (some 119) rfl rfl Try.func32 (by kernel_rfl) rfl #[.slice A0_5 l0_5.length c0_5, .slice A0_6 l0_6.length c0_6] rfl (by (try simp only [List.map_toArray, List.map_cons, List.map_nil]); first | done | rfl | (simp only [List.length_drop, List.length_take]; rfl)) ?_; (with_reducible refine (zoneinforef18_Consistent.calls k3 _ _ l0_5 _ _ l0_6 false _ ?side1 ?side2 ?side3 ?side4 A46.out).mono ?_); (case side1 => repeat (first | exact (Kd.C_below HR0_5.out (by repeat (first | (with_reducible first | exact HB.out | apply below_alloc | apply pw_below_drewN | apply below_drew1 | refine below_set ?_ GE195.out) | exact HB.out))) | (with_reducible refine Kd.C_alloc ?_ _) | (with_reducible refine Kd.C_drewN ?_ _) | (with_reducible refine Kd.C_drew ?_))); (case side2 => exact HC0_5.out); (case side3 => repeat (first | exact (Kd.C_below HR0_6.out (by repeat (first | (with_reducible first | exact HB.out | apply below_alloc | apply pw_below_drewN | apply below_drew1 | refine below_set ?_ GE195.out) | exact HB.out))) | (with_reducible refine Kd.C_alloc ?_ _) | (with_reducible refine Kd.C_drewN ?_ _) | (with_reducible refine Kd.C_drew ?_))); (case side4 => exact HC0_6.out); rintro e w' ⟨rfl, ⟨nd, rfl⟩⟩; refine ⟨_, rfl, ?_⟩))
                                go_ret
                                exact ⟨by first | rfl | (simp [errW_none, errW_some] <;> rfl) | (simp [*, errW_none, errW_some] <;> rfl), by repeat (first | (with_reducible first | exact HB.out | apply below_alloc | apply pw_below_drewN | apply below_drew1 | refine below_set ?_ GE195.out) | exact HB.out)⟩
                            · replace c45 := Bool.eq_false_iff.mpr c45
                              subst c45
                              have H1 : (some 12) = some r := by rw [if_neg (show ¬ (false = true) by decide)] at H; exact H
                              clear H; have H := H1; clear H1
                              obtain rfl := Option.some.inj H
                              have hcz50_0 : wr.cell? ⟨gb195, 0, none⟩ = some (.slice A0_0 l0_0.length c0_0) := (blk_cell BK195.out 0).trans rfl
                              have hcz50_1 : wr.cell? ⟨gb195, 1, none⟩ = some (.slice A0_1 l0_1.length c0_1) := (blk_cell BK195.out 1).trans rfl
                              have hcz50_2 : wr.cell? ⟨gb195, 2, none⟩ = some (.slice A0_2 l0_2.length c0_2) := (blk_cell BK195.out 2).trans rfl
                              have hcz50_3 : wr.cell? ⟨gb195, 3, none⟩ = some (.slice A0_3 l0_3.length c0_3) := (blk_cell BK195.out 3).trans rfl
                              have hcz50_4 : wr.cell? ⟨gb195, 4, none⟩ = some (.slice A0_4 l0_4.length c0_4) := (blk_cell BK195.out 4).trans rfl
                              have hcz50_5 : wr.cell? ⟨gb195, 5, none⟩ = some (.slice A0_5 l0_5.length c0_5) := (blk_cell BK195.out 5).trans rfl
                              have hcz50_6 : wr.cell? ⟨gb195, 6, none⟩ = some (.slice A0_6 l0_6.length c0_6) := (blk_cell BK195.out 6).trans rfl
                              have hfz50_0 := blk_frozen BK195.out 0; have hfz50_1 := blk_frozen BK195.out 1; have hfz50_2 := blk_frozen BK195.out 2; have hfz50_3 := blk_frozen BK195.out 3; have hfz50_4 := blk_frozen BK195.out 4; have hfz50_5 := blk_frozen BK195.out 5; have hfz50_6 := blk_frozen BK195.out 6
                              go_wp2_with (first | ((with_reducible refine gate_callee (f := 29) rfl ?_); refine goesL_ (some 102) rfl rfl Try.func29 (by kernel_rfl) rfl #[.slice A0_2 l0_2.length c0_2, .int .i64 (l0_3.length : Int)] rfl (by (try simp only [List.map_toArray, List.map_cons, List.map_nil]); first | done | rfl | (simp only [List.length_drop, List.length_take]; rfl)) ?_; (with_reducible refine (zoneinforef16_Check.calls k3 _ _ l0_2 (l0_3.length : Int) t201 _ ?side1 ?side2 A40.out).mono ?_); (case side1 => repeat (first | exact (Kd.C_below HR0_2.out HB.out) | (with_reducible refine Kd.C_alloc ?_ _) | (with_reducible refine Kd.C_drewN ?_ _) | (with_reducible refine Kd.C_drew ?_))); (case side2 => exact HC0_2.out); rintro e w' ⟨rfl, ⟨nd, rfl⟩⟩; refine ⟨_, rfl, ?_⟩) | ((with_reducible refine gate_callee (f := 30) rfl ?_); refine goesL_ (some 108) rfl rfl Try.func30 (by kernel_rfl) rfl #[.slice A0_3 l0_3.length c0_3] rfl (by (try simp only [List.map_toArray, List.map_cons, List.map_nil]); first | done | rfl | (simp only [List.length_drop, List.length_take]; rfl)) ?_; (with_reducible refine (zoneinforef12_Valid.calls k3 _ _ l0_3 true _ ?side1 ?side2 A42.out).mono ?_); (case side1 => repeat (first | exact (Kd.C_below HR0_3.out (by repeat (first | (with_reducible first | exact HB.out | apply below_alloc | apply pw_below_drewN | apply below_drew1 | refine below_set ?_ GE195.out) | exact HB.out))) | (with_reducible refine Kd.C_alloc ?_ _) | (with_reducible refine Kd.C_drewN ?_ _) | (with_reducible refine Kd.C_drew ?_))); (case side2 => exact HC0_3.out); rintro e w' ⟨rfl, ⟨nd, rfl⟩⟩; refine ⟨_, rfl, ?_⟩) | ((with_reducible refine gate_callee (f := 31) rfl ?_); refine goesL_ (some 113) rfl rfl Try.func31 (by kernel_rfl) rfl #[.slice A0_4 l0_4.length c0_4, .int .i64 a1] rfl (by (try simp only [List.map_toArray, List.map_cons, List.map_nil]); first | done | rfl | (simp only [List.length_drop, List.length_take]; rfl)) ?_; (with_reducible refine (zoneinforef17_Valid.calls k3 _ _ l0_4 a1 false _ ?side1 ?side2 A44.out).mono ?_); (case side1 => repeat (first | exact (Kd.C_below HR0_4.out (by repeat (first | (with_reducible first | exact HB.out | apply below_alloc | apply pw_below_drewN | apply below_drew1 | refine below_set ?_ GE195.out) | exact HB.out))) | (with_reducible refine Kd.C_alloc ?_ _) | (with_reducible refine Kd.C_drewN ?_ _) | (with_reducible refine Kd.C_drew ?_))); (case side2 => exact HC0_4.out); rintro e w' ⟨rfl, ⟨nd, rfl⟩⟩; refine ⟨_, rfl, ?_⟩))
                              go_ret
                              exact ⟨by first | rfl | (simp [errW_none, errW_some] <;> rfl) | (simp [*, errW_none, errW_some] <;> rfl), by repeat (first | (with_reducible first | exact HB.out | apply below_alloc | apply pw_below_drewN | apply below_drew1 | refine below_set ?_ GE195.out) | exact HB.out)⟩
                          · replace c43 := Bool.eq_false_iff.mpr c43
                            subst c43
                            have H1 : (some 11) = some r := by rw [if_neg (show ¬ (false = true) by decide)] at H; exact H
                            clear H; have H := H1; clear H1
                            obtain rfl := Option.some.inj H
                            have hcz51_0 : wr.cell? ⟨gb195, 0, none⟩ = some (.slice A0_0 l0_0.length c0_0) := (blk_cell BK195.out 0).trans rfl
                            have hcz51_1 : wr.cell? ⟨gb195, 1, none⟩ = some (.slice A0_1 l0_1.length c0_1) := (blk_cell BK195.out 1).trans rfl
                            have hcz51_2 : wr.cell? ⟨gb195, 2, none⟩ = some (.slice A0_2 l0_2.length c0_2) := (blk_cell BK195.out 2).trans rfl
                            have hcz51_3 : wr.cell? ⟨gb195, 3, none⟩ = some (.slice A0_3 l0_3.length c0_3) := (blk_cell BK195.out 3).trans rfl
                            have hcz51_4 : wr.cell? ⟨gb195, 4, none⟩ = some (.slice A0_4 l0_4.length c0_4) := (blk_cell BK195.out 4).trans rfl
                            have hcz51_5 : wr.cell? ⟨gb195, 5, none⟩ = some (.slice A0_5 l0_5.length c0_5) := (blk_cell BK195.out 5).trans rfl
                            have hcz51_6 : wr.cell? ⟨gb195, 6, none⟩ = some (.slice A0_6 l0_6.length c0_6) := (blk_cell BK195.out 6).trans rfl
                            have hfz51_0 := blk_frozen BK195.out 0; have hfz51_1 := blk_frozen BK195.out 1; have hfz51_2 := blk_frozen BK195.out 2; have hfz51_3 := blk_frozen BK195.out 3; have hfz51_4 := blk_frozen BK195.out 4; have hfz51_5 := blk_frozen BK195.out 5; have hfz51_6 := blk_frozen BK195.out 6
                            go_wp2_with (first | ((with_reducible refine gate_callee (f := 29) rfl ?_); refine goesL_ (some 102) rfl rfl Try.func29 (by kernel_rfl) rfl #[.slice A0_2 l0_2.length c0_2, .int .i64 (l0_3.length : Int)] rfl (by (try simp only [List.map_toArray, List.map_cons, List.map_nil]); first | done | rfl | (simp only [List.length_drop, List.length_take]; rfl)) ?_; (with_reducible refine (zoneinforef16_Check.calls k3 _ _ l0_2 (l0_3.length : Int) t201 _ ?side1 ?side2 A40.out).mono ?_); (case side1 => repeat (first | exact (Kd.C_below HR0_2.out HB.out) | (with_reducible refine Kd.C_alloc ?_ _) | (with_reducible refine Kd.C_drewN ?_ _) | (with_reducible refine Kd.C_drew ?_))); (case side2 => exact HC0_2.out); rintro e w' ⟨rfl, ⟨nd, rfl⟩⟩; refine ⟨_, rfl, ?_⟩) | ((with_reducible refine gate_callee (f := 30) rfl ?_); refine goesL_ (some 108) rfl rfl Try.func30 (by kernel_rfl) rfl #[.slice A0_3 l0_3.length c0_3] rfl (by (try simp only [List.map_toArray, List.map_cons, List.map_nil]); first | done | rfl | (simp only [List.length_drop, List.length_take]; rfl)) ?_; (with_reducible refine (zoneinforef12_Valid.calls k3 _ _ l0_3 false _ ?side1 ?side2 A42.out).mono ?_); (case side1 => repeat (first | exact (Kd.C_below HR0_3.out (by repeat (first | (with_reducible first | exact HB.out | apply below_alloc | apply pw_below_drewN | apply below_drew1 | refine below_set ?_ GE195.out) | exact HB.out))) | (with_reducible refine Kd.C_alloc ?_ _) | (with_reducible refine Kd.C_drewN ?_ _) | (with_reducible refine Kd.C_drew ?_))); (case side2 => exact HC0_3.out); rintro e w' ⟨rfl, ⟨nd, rfl⟩⟩; refine ⟨_, rfl, ?_⟩))
                            go_ret
                            exact ⟨by first | rfl | (simp [errW_none, errW_some] <;> rfl) | (simp [*, errW_none, errW_some] <;> rfl), by repeat (first | (with_reducible first | exact HB.out | apply below_alloc | apply pw_below_drewN | apply below_drew1 | refine below_set ?_ GE195.out) | exact HB.out)⟩
                        · rw [if_neg c41] at H
                          have c41b0 : (t201 == 0) = false := beq_eq_false_iff_ne.mpr c41
                          have c41b1 : (t201 != 0) = true := bne_iff_ne.mpr c41
                          obtain rfl := Option.some.inj H
                          have hcz52_0 : wr.cell? ⟨gb195, 0, none⟩ = some (.slice A0_0 l0_0.length c0_0) := (blk_cell BK195.out 0).trans rfl
                          have hcz52_1 : wr.cell? ⟨gb195, 1, none⟩ = some (.slice A0_1 l0_1.length c0_1) := (blk_cell BK195.out 1).trans rfl
                          have hcz52_2 : wr.cell? ⟨gb195, 2, none⟩ = some (.slice A0_2 l0_2.length c0_2) := (blk_cell BK195.out 2).trans rfl
                          have hcz52_3 : wr.cell? ⟨gb195, 3, none⟩ = some (.slice A0_3 l0_3.length c0_3) := (blk_cell BK195.out 3).trans rfl
                          have hcz52_4 : wr.cell? ⟨gb195, 4, none⟩ = some (.slice A0_4 l0_4.length c0_4) := (blk_cell BK195.out 4).trans rfl
                          have hcz52_5 : wr.cell? ⟨gb195, 5, none⟩ = some (.slice A0_5 l0_5.length c0_5) := (blk_cell BK195.out 5).trans rfl
                          have hcz52_6 : wr.cell? ⟨gb195, 6, none⟩ = some (.slice A0_6 l0_6.length c0_6) := (blk_cell BK195.out 6).trans rfl
                          have hfz52_0 := blk_frozen BK195.out 0; have hfz52_1 := blk_frozen BK195.out 1; have hfz52_2 := blk_frozen BK195.out 2; have hfz52_3 := blk_frozen BK195.out 3; have hfz52_4 := blk_frozen BK195.out 4; have hfz52_5 := blk_frozen BK195.out 5; have hfz52_6 := blk_frozen BK195.out 6
                          go_wp2_with (first | ((with_reducible refine gate_callee (f := 29) rfl ?_); refine goesL_ (some 102) rfl rfl Try.func29 (by kernel_rfl) rfl #[.slice A0_2 l0_2.length c0_2, .int .i64 (l0_3.length : Int)] rfl (by (try simp only [List.map_toArray, List.map_cons, List.map_nil]); first | done | rfl | (simp only [List.length_drop, List.length_take]; rfl)) ?_; (with_reducible refine (zoneinforef16_Check.calls k3 _ _ l0_2 (l0_3.length : Int) t201 _ ?side1 ?side2 A40.out).mono ?_); (case side1 => repeat (first | exact (Kd.C_below HR0_2.out HB.out) | (with_reducible refine Kd.C_alloc ?_ _) | (with_reducible refine Kd.C_drewN ?_ _) | (with_reducible refine Kd.C_drew ?_))); (case side2 => exact HC0_2.out); rintro e w' ⟨rfl, ⟨nd, rfl⟩⟩; refine ⟨_, rfl, ?_⟩))
                          go_ret
                          exact ⟨by first | rfl | (simp [errW_none, errW_some] <;> rfl) | (simp [*, errW_none, errW_some] <;> rfl), by repeat (first | (with_reducible first | exact HB.out | apply below_alloc | apply pw_below_drewN | apply below_drew1 | refine below_set ?_ GE195.out) | exact HB.out)⟩
                · rw [if_neg c33] at H
                  have c33b0 : (t199 == (-1)) = false := beq_eq_false_iff_ne.mpr c33
                  have c33b1 : (t199 != (-1)) = true := bne_iff_ne.mpr c33
                  obtain rfl := Option.some.inj H
                  have hcz53_0 : wr.cell? ⟨gb195, 0, none⟩ = some (.slice A0_0 l0_0.length c0_0) := (blk_cell BK195.out 0).trans rfl
                  have hcz53_1 : wr.cell? ⟨gb195, 1, none⟩ = some (.slice A0_1 l0_1.length c0_1) := (blk_cell BK195.out 1).trans rfl
                  have hcz53_2 : wr.cell? ⟨gb195, 2, none⟩ = some (.slice A0_2 l0_2.length c0_2) := (blk_cell BK195.out 2).trans rfl
                  have hcz53_3 : wr.cell? ⟨gb195, 3, none⟩ = some (.slice A0_3 l0_3.length c0_3) := (blk_cell BK195.out 3).trans rfl
                  have hcz53_4 : wr.cell? ⟨gb195, 4, none⟩ = some (.slice A0_4 l0_4.length c0_4) := (blk_cell BK195.out 4).trans rfl
                  have hcz53_5 : wr.cell? ⟨gb195, 5, none⟩ = some (.slice A0_5 l0_5.length c0_5) := (blk_cell BK195.out 5).trans rfl
                  have hcz53_6 : wr.cell? ⟨gb195, 6, none⟩ = some (.slice A0_6 l0_6.length c0_6) := (blk_cell BK195.out 6).trans rfl
                  have hfz53_0 := blk_frozen BK195.out 0; have hfz53_1 := blk_frozen BK195.out 1; have hfz53_2 := blk_frozen BK195.out 2; have hfz53_3 := blk_frozen BK195.out 3; have hfz53_4 := blk_frozen BK195.out 4; have hfz53_5 := blk_frozen BK195.out 5; have hfz53_6 := blk_frozen BK195.out 6
                  go_wp2_with (first | ((with_reducible refine gate_callee (f := 18) rfl ?_); refine goesL_ (some 80) rfl rfl Try.func18 (by kernel_rfl) rfl #[.slice A0_0 l0_0.length c0_0] rfl (by (try simp only [List.map_toArray, List.map_cons, List.map_nil]); first | done | rfl | (simp only [List.length_drop, List.length_take]; rfl)) ?_; (with_reducible refine (zoneinforef15_Descent.calls k2 _ _ l0_0 t199 _ ?side1 ?side2 A32.out).mono ?_); (case side1 => repeat (first | exact (Kd.C_below HR0_0.out HB.out) | (with_reducible refine Kd.C_alloc ?_ _) | (with_reducible refine Kd.C_drewN ?_ _) | (with_reducible refine Kd.C_drew ?_))); (case side2 => exact HC0_0.out); rintro e w' ⟨rfl, ⟨nd, rfl⟩⟩; refine ⟨_, rfl, ?_⟩))
                  go_ret
                  exact ⟨by first | rfl | (simp [errW_none, errW_some] <;> rfl) | (simp [*, errW_none, errW_some] <;> rfl), by repeat (first | (with_reducible first | exact HB.out | apply below_alloc | apply pw_below_drewN | apply below_drew1 | refine below_set ?_ GE195.out) | exact HB.out)⟩
        · replace c24 := Bool.eq_false_iff.mpr c24
          subst c24
          have H1 : (some 18) = some r := by rw [if_neg (show ¬ (false = true) by decide)] at H; exact H
          clear H; have H := H1; clear H1
          obtain rfl := Option.some.inj H
          have hcz54_0 : wc.cell? ⟨gb195, 0, none⟩ = some (.slice A0_0 l0_0.length c0_0) := (blk_cell BK195.out 0).trans rfl
          have hcz54_1 : wc.cell? ⟨gb195, 1, none⟩ = some (.slice A0_1 l0_1.length c0_1) := (blk_cell BK195.out 1).trans rfl
          have hcz54_2 : wc.cell? ⟨gb195, 2, none⟩ = some (.slice A0_2 l0_2.length c0_2) := (blk_cell BK195.out 2).trans rfl
          have hcz54_3 : wc.cell? ⟨gb195, 3, none⟩ = some (.slice A0_3 l0_3.length c0_3) := (blk_cell BK195.out 3).trans rfl
          have hcz54_4 : wc.cell? ⟨gb195, 4, none⟩ = some (.slice A0_4 l0_4.length c0_4) := (blk_cell BK195.out 4).trans rfl
          have hcz54_5 : wc.cell? ⟨gb195, 5, none⟩ = some (.slice A0_5 l0_5.length c0_5) := (blk_cell BK195.out 5).trans rfl
          have hcz54_6 : wc.cell? ⟨gb195, 6, none⟩ = some (.slice A0_6 l0_6.length c0_6) := (blk_cell BK195.out 6).trans rfl
          have hfz54_0 := blk_frozen BK195.out 0; have hfz54_1 := blk_frozen BK195.out 1; have hfz54_2 := blk_frozen BK195.out 2; have hfz54_3 := blk_frozen BK195.out 3; have hfz54_4 := blk_frozen BK195.out 4; have hfz54_5 := blk_frozen BK195.out 5; have hfz54_6 := blk_frozen BK195.out 6
          go_wp2_with (first | ((with_reducible refine gate_callee (f := 27) rfl ?_); refine goesL_ (some 60) rfl rfl Try.func27 (by kernel_rfl) rfl #[.slice A0_0 l0_0.length c0_0, .int .i64 a2] rfl (by (try simp only [List.map_toArray, List.map_cons, List.map_nil]); first | done | rfl | (simp only [List.length_drop, List.length_take]; rfl)) ?_; (with_reducible refine (zoneinforef15_Fit.calls kj3 _ _ l0_0 a2 false _ ?side1 ?side2 A23.out).mono ?_); (case side1 => repeat (first | exact (Kd.C_below HR0_0.out HB.out) | (with_reducible refine Kd.C_alloc ?_ _) | (with_reducible refine Kd.C_drewN ?_ _) | (with_reducible refine Kd.C_drew ?_))); (case side2 => exact HC0_0.out); rintro e w' ⟨rfl, ⟨nd, rfl⟩⟩; refine ⟨_, rfl, ?_⟩))
          go_ret
          exact ⟨by first | rfl | (simp [errW_none, errW_some] <;> rfl) | (simp [*, errW_none, errW_some] <;> rfl), by repeat (first | (with_reducible first | exact HB.out | apply below_alloc | apply pw_below_drewN | apply below_drew1 | refine below_set ?_ GE195.out) | exact HB.out)⟩

end Go.Proofs.Ytfminjencigfeaa.G
