/- Which lists of leap second records are valid: the plain law behind the walk. No condition. -/
import Derived.Test.YtiaobffdggeofaaDoorWWords
import Derived.Test.YtiaobffdggeofaaDoorWMore
import Derived.Test.YtiaobffdggeofaaDoorOwn
import Derived.Test.YtiaobffdggeofaaDoorGx10
import Derived.Test.YtiaobffdggeofaaDoorBase
import Derived.Test.YtiaobffdggeofaaDoorBig
import Derived.Test.YtiaobffdggeofaaDoorOpn
import Derived.Test.YtiaobffdggeofaaDoorLeap
set_option linter.unusedVariables false
set_option linter.unusedSimpArgs false
namespace Go.Proofs.YtiaobffdggeofaaDoor.Pure
open Go.RowKit Go.Proofs.YtiaobffdggeofaaDoor.G Go.Proofs.YtiaobffdggeofaaDoorW.PrintWords Go.Proofs.YtiaobffdggeofaaDoorW.PrintLast Go.Proofs.YtiaobffdggeofaaDoorW.PrintMore

theorem VAL_low {l : List S38} {v v' : Int} (h : v < 4) (h' : v' < 4) (i : Nat) : VAL l v i → VAL l v' i := fun ⟨a, b⟩ =>
  ⟨fun e => ⟨(a e).1, by rcases (a e).2 with h1 | h1 | h1; · omega
                         · exact .inr (.inl h1)
                         · exact .inr (.inr h1)⟩,
   fun e => ⟨(b e).1, (b e).2.1, by rcases (b e).2.2 with h1 | h1 | ⟨_, h1, _⟩; · exact .inl h1
                                    · exact .inr (.inl h1)
                                    · omega⟩⟩
theorem VAL_four {l : List S38} {v : Int} (h : v < 4) (i : Nat) : VAL l v i → VAL l 4 i := fun ⟨a, b⟩ =>
  ⟨fun e => ⟨(a e).1, .inl (by omega)⟩,
   fun e => ⟨(b e).1, (b e).2.1, by rcases (b e).2.2 with h1 | h1 | ⟨_, h1, _⟩; · exact .inl h1
                                    · exact .inr (.inl h1)
                                    · omega⟩⟩
theorem VB_low (l : List S38) (hw : WfL l) (hl : l.length ≤ 1000000) (v v' : Int) (h : v < 4) (h' : v' < 4) : VB l v = VB l v' := by
  rw [Bool.eq_iff_iff, VB_iff l hw hl, VB_iff l hw hl]
  exact ⟨fun a i hi => VAL_low h h' i (a i hi), fun a i hi => VAL_low h' h i (a i hi)⟩
theorem VB_four (l : List S38) (hw : WfL l) (hl : l.length ≤ 1000000) (h : VB l 3 = true) : VB l 4 = true :=
  (VB_iff l hw hl 4).2 fun i hi => VAL_four (by omega) i ((VB_iff l hw hl 3).1 h i hi)
theorem rdS_take (l : List S38) (q i : Nat) (h : i < q) (hq : q ≤ l.length) : rd_T38 (l.take q) (i : Int) = rd_T38 l (i : Int) := by
  rw [rdS_nat (l.take q) i (by rw [List.length_take]; omega), rdS_nat l i (by omega), List.getElem_take]
theorem VB_prefix (l : List S38) (hw : WfL l) (hl : l.length ≤ 1000000) (q : Nat) (hq : q < l.length) (h : VB l 4 = true) : VB (l.take q) 4 = true := by
  have hwt : WfL (l.take q) := fun x hx => hw x (List.mem_of_mem_take hx)
  have hlen : (l.take q).length = q := by rw [List.length_take]; omega
  refine (VB_iff (l.take q) hwt (by omega) 4).2 fun i hi => ?_
  rw [hlen] at hi
  obtain ⟨a, b⟩ := (VB_iff l hw hl 4).1 h i (by omega)
  have ea : At (l.take q) i = At l i := by unfold At; rw [rdS_take l q i hi (by omega)]
  have eb : At (l.take q) (i - 1) = At l (i - 1) := by unfold At; rw [rdS_take l q (i - 1) (by omega) (by omega)]
  have ec : Co (l.take q) i = Co l i := by unfold Co; rw [rdS_take l q i hi (by omega)]
  have ed : Co (l.take q) (i - 1) = Co l (i - 1) := by unfold Co; rw [rdS_take l q (i - 1) (by omega) (by omega)]
  refine ⟨fun e => ?_, fun e => ?_⟩
  · subst e
    rw [ea, ec]
    exact a rfl
  · rw [ea, eb, ec, ed]
    refine ⟨(b e).1, (b e).2.1, ?_⟩
    rcases (b e).2.2 with h1 | h1 | ⟨_, _, h1⟩
    · exact .inl h1
    · exact .inr (.inl h1)
    · omega
theorem rdS_set (l : List S38) (j i : Nat) (x : S38) (hi : i < l.length) : rd_T38 (l.set j x) (i : Int) = if j = i then x else rd_T38 l (i : Int) := by
  rw [rdS_nat _ i (by rw [List.length_set]; exact hi), rdS_nat l i hi, List.getElem_set]
theorem VB_turned (l : List S38) (hw : WfL l) (hl : l.length ≤ 1000000) (i : Nat) (hi : i + 1 < l.length) (h : VB l 4 = true) (x y : S38) (hx : x = rd_T38 l ((i + 1 : Nat) : Int)) (hy : y = rd_T38 l (i : Int)) : VB ((l.set i x).set (i + 1) y) 4 = false := by
  have hwt : WfL ((l.set i x).set (i + 1) y) := fun z hz => by
    rcases List.mem_or_eq_of_mem_set hz with hz | hz
    · rcases List.mem_or_eq_of_mem_set hz with hz | hz
      · exact hw z hz
      · rw [hz, hx]; exact hw.rd (i + 1) hi
    · rw [hz, hy]; exact hw.rd i (by omega)
  rw [Bool.eq_false_iff]
  intro hc
  have h1 := VB_asc _ hwt (by simpa using hl) 4 hc (i + 1) (by omega) (by simpa using hi)
  have h2 := VB_asc l hw hl 4 h (i + 1) (by omega) hi
  rw [Nat.add_sub_cancel] at h1 h2
  unfold At at h1 h2
  rw [rdS_set _ (i + 1) i y (by rw [List.length_set]; omega), rdS_set _ (i + 1) (i + 1) y (by rw [List.length_set]; omega), if_neg (by omega), if_pos rfl, rdS_set l i i x (by omega), if_pos rfl, hx, hy] at h1
  omega
theorem rot_arith (a n : Nat) (h2 : 2 ≤ n) (hn : n ≤ 100) (ha : a < 256) : ∃ q r : Nat, q < n ∧ r + 1 < n ∧ Int.tmod (wrap64 (a : Int)) (n : Int) = (q : Int) ∧ wrap64 ((n : Int) - 1) ≠ 0 ∧ Int.tmod (q : Int) (wrap64 ((n : Int) - 1)) = (r : Int) ∧ wrap64 ((r : Int) + 1) = ((r + 1 : Nat) : Int) := by
  have e : wrap64 ((n : Int) - 1) = ((n - 1 : Nat) : Int) := by unfold wrap64; omega
  have ea : wrap64 (a : Int) = (a : Int) := by unfold wrap64; omega
  have h1 := Nat.mod_lt a (show n > 0 by omega)
  have h3 := Nat.mod_lt (a % n) (show n - 1 > 0 by omega)
  refine ⟨a % n, a % n % (n - 1), h1, by omega, ?_, by rw [e]; omega, ?_, by unfold wrap64; omega⟩
  · rw [ea, Int.tmod_eq_emod_of_nonneg (by omega)]; rfl
  · rw [e, Int.tmod_eq_emod_of_nonneg (by omega)]; rfl
theorem LeapsValidity : Opn.LeapsValidity := by
  intro l a wl wa
  have hw := WfL.of wl.2
  have ha := wf_u8 wa
  obtain ⟨a, rfl⟩ := Int.eq_ofNat_of_zero_le ha.1
  refine ⟨3003, ?_⟩
  unfold zoneinfolaw17_LeapsValidity.f
  refine bnd (awake17 _ (by omega)) ?_
  rw [if_pos rfl]
  by_cases hlen : (l.length : Int) > 100
  · rw [decide_eq_true hlen, zoneinfolaw17_LeapsValidity.j0, if_pos rfl]
    exact bnd (awake17 _ (by omega)) rfl
  rw [decide_eq_false hlen, zoneinfolaw17_LeapsValidity.j0, if_neg (by decide)]
  refine bnd (valid_f l 3) ?_
  refine bnd (valid_f l 4) ?_
  refine bnd (valid_f l 1) ?_
  rw [VB_low l hw (by omega) 1 3 (by omega) (by omega), if_neg (by simp)]
  refine bnd (valid_f l 2) ?_
  rw [VB_low l hw (by omega) 2 3 (by omega) (by omega), if_neg (by simp)]
  have tail : ∀ f : Bool, f = VB l 4 → zoneinfolaw17_LeapsValidity.j1 3002 l (a : Int) f false = some true := by
    intro f hf
    rw [zoneinfolaw17_LeapsValidity.j1, if_neg (by decide)]
    have out : zoneinfolaw17_LeapsValidity.j2 3001 l (a : Int) true = some true := by rw [zoneinfolaw17_LeapsValidity.j2, if_pos rfl]
    cases f
    · rw [if_neg (by decide)]; exact out
    · rw [if_pos rfl]
      by_cases h2 : (l.length : Int) < 2
      · rw [decide_eq_true h2]; exact out
      · rw [decide_eq_false h2, zoneinfolaw17_LeapsValidity.j2, if_neg (by decide)]
        obtain ⟨q, r, hq, hr, e1, e2, e3, e4⟩ := rot_arith a l.length (by omega) (by omega) (by omega)
        rw [e1, if_neg (by omega), if_pos (by omega), if_pos (by omega), Int.toNat_natCast]
        refine bnd (valid_f _ 4) ?_
        rw [if_pos (VB_prefix l hw (by omega) q hq hf.symm)]
        simp only [Option.bind_some, List.nil_append, List.length_nil]
        rw [if_pos (by omega), if_neg e2, e3, e4, if_pos (by omega), if_pos (by omega), if_pos (by omega), if_pos (by omega), if_pos (by omega), if_pos (by omega), Int.toNat_natCast, Int.toNat_natCast]
        refine bnd (valid_f _ 4) ?_
        rw [VB_turned l hw (by omega) r hr hf.symm _ _ (ext38 rfl rfl) (ext38 rfl rfl)]
        rfl
  have h34 := VB_four l hw (by omega)
  cases h3 : VB l 3 <;> cases h4 : VB l 4
  · rw [if_neg (by decide)]
    refine bnd (needs_f l) ?_
    rw [h3, h4, if_neg (by decide)]
    exact tail false h4.symm
  · rw [if_neg (by decide)]
    refine bnd (needs_f l) ?_
    rw [h3, h4, if_pos rfl]
    exact tail true h4.symm
  · rw [h34 h3] at h4; cases h4
  · rw [if_pos rfl, if_pos rfl]
    refine bnd (needs_f l) ?_
    rw [h3, h4]
    exact tail true h4.symm
end Go.Proofs.YtiaobffdggeofaaDoor.Pure
