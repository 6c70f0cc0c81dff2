/- Leap second records, decoded, encoded, tested and looked up, are what the reference says: the plain law behind the walk. No condition. -/
import Derived.Test.YtiaobffdggeofaaDoorWWords
import Derived.Test.YtiaobffdggeofaaDoorWMore
import Derived.Test.YtiaobffdggeofaaDoorOwn
import Derived.Test.YtiaobffdggeofaaDoorGx7
import Derived.Test.YtiaobffdggeofaaDoorGx8
import Derived.Test.YtiaobffdggeofaaDoorBase
import Derived.Test.YtiaobffdggeofaaDoorBig
import Derived.Test.YtiaobffdggeofaaDoorOpn
import Derived.Test.YtiaobffdggeofaaDoorLeap
set_option linter.unusedVariables false
set_option linter.unusedSimpArgs false
namespace Go.Proofs.YtiaobffdggeofaaDoor.Pure
open Go.RowKit Go.Proofs.YtiaobffdggeofaaDoor.G Go.Proofs.YtiaobffdggeofaaDoorW.PrintWords Go.Proofs.YtiaobffdggeofaaDoorW.PrintLast Go.Proofs.YtiaobffdggeofaaDoorW.PrintMore

theorem rneeds_f (l : List S38) (hw : WfL l) (hl : l.length ≤ 100000) (k : Nat) (hk : 2 * l.length + 10 < k) : zoneinforef17_NeedsV4.f k l = some (VB l 4 && !VB l 3) := by
  unfold zoneinforef17_NeedsV4.f
  rw [rvalid_f l hw hl _ k hk, rvalid_f l hw hl _ k hk, Option.bind_some, Option.bind_some]
  cases VB l 3 <;> simp
theorem leaps_j1 (l : List S38) (hw : WfL l) (hl : l.length ≤ 100) (t : Int) : zoneinfolaw17_LeapsMatchReference.j1 2999 l t false = some true := by
  rw [zoneinfolaw17_LeapsMatchReference.j1, if_neg (by decide)]
  refine bnd (rvalid_f l hw (by omega) 4 _ (by omega)) ?_
  by_cases hv : VB l 4 = true
  · rw [if_pos hv]
    refine bnd (exp_f l hw (by omega)) ?_
    refine bnd (rexp_f l (by omega)) ?_
    obtain ⟨p, hp⟩ := pos_ex l (VB_Asc l hw (by omega) 4 hv) t
    refine bnd (corr_f l hw (by omega) t p hp _ (by omega)) ?_
    refine bnd (rcorr_f l hw (by omega) t p hp _ (by omega)) ?_
    rw [if_pos rfl, if_pos rfl]
    simp
  · rw [if_neg hv]
theorem LeapsMatchReference : Opn.LeapsMatchReference := by
  intro b l wide v t wb wl wv wt
  have hb := Byt.of wb.2
  have hw := WfL.of wl.2
  refine ⟨3000, ?_⟩
  unfold zoneinfolaw17_LeapsMatchReference.f
  refine bnd (awake17 _ (by omega)) ?_
  rw [if_pos rfl]
  have far : zoneinfolaw17_LeapsMatchReference.j0 3000 b l wide v t true = some true := by
    rw [zoneinfolaw17_LeapsMatchReference.j0, if_pos rfl]
    exact bnd (awake17 _ (by omega)) rfl
  split
  · exact far
  by_cases h2 : (l.length : Int) > 100
  · rw [decide_eq_true h2]; exact far
  rw [decide_eq_false h2, zoneinfolaw17_LeapsMatchReference.j0, if_neg (by decide)]
  obtain ⟨n, m, hn, hs⟩ := size12 wide
  refine bnd hs ?_
  rw [hn.wr]
  have hc := cut17 hn b.length (by omega)
  have hle : b.length / m * m ≤ b.length := Nat.div_mul_le_self _ _
  have hm := hn.pos
  rw [if_neg (by omega), hc, if_pos (by omega), if_pos (by omega), Int.toNat_natCast]
  have hcl : (b.take (b.length / m * m)).length ≤ 1000 := by rw [List.length_take]; omega
  generalize b.length / m * m = q at hle hc hcl ⊢
  have hdl : (decL n m (b.take q)).length ≤ 1000 := by rw [decL_length]; exact Nat.le_trans (Nat.div_le_self _ _) hcl
  have hel : (encL n l).length ≤ 1600 := by rw [encL_length, ← hn.m]; rcases hn with ⟨rfl, rfl⟩ | ⟨rfl, rfl⟩ <;> omega
  refine bnd (ldec_f n m hn _ (hb.take _) (by omega) _ (by omega)) ?_
  refine bnd (rldec_f n m hn _ (hb.take _) (by omega) _ (by omega)) ?_
  refine bnd (same17_f _ _ (by omega) _ (by omega)) ?_
  rw [if_pos (by simp)]
  refine bnd (lenc_f n hn.w l hw (by omega) _ (by omega)) ?_
  refine bnd (rlenc_f n hn.w l hw (by omega) _ (by omega)) ?_
  refine bnd (same01_f _ _ (by omega) _ (by omega)) ?_
  rw [if_pos (by simp)]
  refine bnd (valid_f l _) ?_
  refine bnd (rvalid_f l hw (by omega) _ _ (by omega)) ?_
  rw [if_neg (by simp)]
  refine bnd (needs_f l) ?_
  refine bnd (rneeds_f l hw (by omega) _ (by omega)) ?_
  rw [show ((VB l 4 && !VB l 3) != (VB l 4 && !VB l 3)) = false by simp]
  exact leaps_j1 l hw (by omega) t
end Go.Proofs.YtiaobffdggeofaaDoor.Pure
