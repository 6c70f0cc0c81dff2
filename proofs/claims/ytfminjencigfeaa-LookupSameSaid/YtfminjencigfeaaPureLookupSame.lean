/- Same is an equivalence: the plain law behind the walk. No condition. -/
import Derived.Test.YtfminjencigfeaaWWords
import Derived.Test.YtfminjencigfeaaWMore
import Derived.Test.YtfminjencigfeaaOwn
import Derived.Test.YtfminjencigfeaaGx17
import Derived.Test.YtfminjencigfeaaBase
import Derived.Test.YtfminjencigfeaaLook
import Derived.Test.YtfminjencigfeaaOpn
import Derived.Test.YtfminjencigfeaaBlk
import Derived.Test.YtfminjencigfeaaRes
import Derived.Test.YtfminjencigfeaaSayLookupSame
set_option linter.unusedVariables false
set_option linter.unusedSimpArgs false
namespace Go.Proofs.Ytfminjencigfeaa.Pure
open Go.RowKit Go.Proofs.Ytfminjencigfeaa.G Go.Proofs.YtfminjencigfeaaW.PrintWords Go.Proofs.YtfminjencigfeaaW.PrintLast Go.Proofs.YtfminjencigfeaaW.PrintMore

theorem mod_natS {a : Int} (h : 0 ≤ a ∧ a < 256) {n : Nat} (hn : 0 < n) : ∃ i : Nat, Int.tmod (wrap64 a) (n : Int) = (i : Int) ∧ i < n := by
  rw [w64 (by omega) (by omega), Int.tmod_eq_emod_of_nonneg (by omega)]
  have h1 := Int.emod_nonneg a (b := (n : Int)) (by omega)
  have h2 := Int.emod_lt_of_pos a (b := (n : Int)) (by omega)
  exact ⟨(a % (n : Int)).toNat, by omega, by omega⟩
variable {b : Opn.S28}
theorem sm_iff {i j : Nat} : sm b i j = true ↔ (ty b i).f0 = (ty b j).f0 ∧ (ty b i).f1 = (ty b j).f1 ∧ (nmT b i).toList = (nmT b j).toList := by
  unfold sm; simp [Bool.and_eq_true]
theorem sm_refl (i : Nat) : sm b i i = true := sm_iff.2 ⟨rfl, rfl, rfl⟩
theorem sm_symm (i j : Nat) : sm b i j = sm b j i := by
  rw [Bool.eq_iff_iff, sm_iff, sm_iff]
  exact ⟨fun ⟨h1, h2, h3⟩ => ⟨h1.symm, h2.symm, h3.symm⟩, fun ⟨h1, h2, h3⟩ => ⟨h1.symm, h2.symm, h3.symm⟩⟩
theorem sm_trans {i j k : Nat} (h : sm b i j = true) (g : sm b j k = true) : sm b i k = true := by
  rw [sm_iff] at h g ⊢
  exact ⟨h.1.trans g.1, h.2.1.trans g.2.1, h.2.2.trans g.2.2⟩
theorem sm_rec {i j : Nat} (h0 : (ty b i).f0 = (ty b j).f0) (h1 : (ty b i).f1 = (ty b j).f1) (h2 : (ty b i).f2 = (ty b j).f2) : sm b i j = true :=
  sm_iff.2 ⟨h0, h1, by unfold nmT; rw [h2]⟩
theorem sm_plc {i j : Nat} (h : sm b i j = true) : plc b i = plc b j := by
  obtain ⟨h0, h1, h2⟩ := sm_iff.1 h
  unfold plc; rw [h0, h1, h2]
theorem j2S_f (g : Fine b) {i j : Nat} (hi : i < b.f2.length) (hj : j < b.f2.length) (k : Nat) :
    zoneinfolaw23_LookupSame.j2 (k + 1) (i : Int) (j : Int) false b.f0 b.f1 b.f2 b.f3 b.f4 b.f5 b.f6 = some true := by
  rw [zoneinfolaw23_LookupSame.j2, if_neg (by decide), same_f g hi hj, Option.bind_some]
  by_cases h : sm b i j = true
  · rw [if_pos h, tr_f g hi, Option.bind_some, tr_f g hj, Option.bind_some, if_pos, Option.bind_some, if_pos h]
    unfold shown
    rw [sm_plc h]
    obtain ⟨h0, h1, h2⟩ := sm_iff.1 h
    by_cases hp : plc b j = true
    · simp [hp]
    · simp [hp, res, h0, h1, h2]
  · rw [if_neg h, Option.bind_some, if_neg h, if_pos (by omega), if_pos (by omega), if_pos (by omega), if_pos (by omega), show rd_T42 b.f2 (i : Int) = ty b i from rfl, show rd_T42 b.f2 (j : Int) = ty b j from rfl]
    by_cases h0 : (ty b i).f0 = (ty b j).f0
    · by_cases h1 : (ty b i).f1 = (ty b j).f1
      · by_cases h2 : (ty b i).f2 = (ty b j).f2
        · exact absurd (sm_rec h0 h1 h2) h
        · simp [h2]
      · simp [h1]
    · simp [h0]
theorem j1S_f (g : Fine b) {i j : Nat} (hi : i < b.f2.length) (hj : j < b.f2.length) (k : Nat) :
    zoneinfolaw23_LookupSame.j1 (k + 1 + 1) (i : Int) (j : Int) false b.f0 b.f1 b.f2 b.f3 b.f4 b.f5 b.f6 = some true := by
  rw [zoneinfolaw23_LookupSame.j1, if_neg (by decide), if_pos (by omega), if_pos (by omega), if_pos (by omega), if_pos (by omega), show rd_T42 b.f2 (i : Int) = ty b i from rfl, show rd_T42 b.f2 (j : Int) = ty b j from rfl]
  by_cases h : ((ty b i).f0 == (ty b j).f0 && ((ty b i).f1 == (ty b j).f1 && ((ty b i).f2 == (ty b j).f2))) = true
  · rw [if_pos h, same_f g hi hj, Option.bind_some]
    simp only [Bool.and_eq_true, beq_iff_eq] at h
    rw [sm_rec h.1 h.2.1 h.2.2]
    exact j2S_f g hi hj k
  · rw [if_neg h]
    exact j2S_f g hi hj k
theorem LookupSame : Opn.LookupSame := by
  intro l0 l1 l2 l3 l4 l5 l6 a1 a2 a3 w0 w1 w2 w3 w4 w5 w6 v1 v2 v3
  have hb : ∀ k : Nat, 60 ≤ k → zoneinfolaw23_LookupSame.j0 (k + 1) a1 a2 a3 true l0 l1 l2 l3 l4 l5 l6 = some true := fun k hk => by
    rw [zoneinfolaw23_LookupSame.j0, if_pos rfl]
    exact bnd (awake23 k hk) rfl
  refine ⟨3003, ?_⟩
  unfold zoneinfolaw23_LookupSame.f
  refine bnd (awake23 3003 (by omega)) ?_
  rw [if_pos rfl]
  obtain ⟨v, hv, hg⟩ := valid_f (b := ⟨l0, l1, l2, l3, l4, l5, l6⟩) (I64s.of w0.2) (WfS.of w4.2) (WfT.of w2.2) (Byt.of w1.2) 3003 (by omega)
  refine bnd hv ?_
  cases v with
  | false => exact hb 3002 (by omega)
  | true =>
    have g : Fine ⟨l0, l1, l2, l3, l4, l5, l6⟩ := { hg rfl with wt := WfT.of w2.2, wc := Byt.of w3.2, wi := Byt.of w1.2 }
    have hn : 0 < l2.length := g.some_
    have hne : ¬ (l2.length : Int) = 0 := by omega
    obtain ⟨x, hx, hxl⟩ := mod_natS (wf_u8 v1) (n := l2.length) hn
    obtain ⟨y, hy, hyl⟩ := mod_natS (wf_u8 v2) (n := l2.length) hn
    obtain ⟨z, hz, hzl⟩ := mod_natS (wf_u8 v3) (n := l2.length) hn
    rw [Bool.not_true, zoneinfolaw23_LookupSame.j0, if_neg (by decide), if_neg hne, hx, hy, hz]
    clear hx hy hz
    refine bnd (same_f g hxl hxl) ?_
    rw [if_pos (sm_refl x)]
    refine bnd (same_f g hxl hyl) ?_
    refine bnd (same_f g hyl hxl) ?_
    rw [sm_symm x y, if_neg (by simp)]
    refine bnd (same_f g hxl hyl) ?_
    rw [sm_symm x y]
    by_cases h1 : sm ⟨l0, l1, l2, l3, l4, l5, l6⟩ y x = true
    · rw [if_pos h1]
      refine bnd (same_f g hyl hzl) ?_
      by_cases h2 : sm ⟨l0, l1, l2, l3, l4, l5, l6⟩ y z = true
      · rw [if_pos h2]
        refine bnd (same_f g hxl hzl) ?_
        rw [sm_trans (by rw [sm_symm]; exact h1) h2]
        exact j1S_f g hxl hyl 3000
      · rw [if_neg h2]
        exact j1S_f g hxl hyl 3000
    · rw [if_neg h1]
      exact j1S_f g hxl hyl 3000
end Go.Proofs.Ytfminjencigfeaa.Pure
