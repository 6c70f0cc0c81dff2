/- Leap second records to bytes and back: the plain law behind the walk. No condition. -/
import Derived.Test.YtiaobffdggeofaaDoorWWords
import Derived.Test.YtiaobffdggeofaaDoorWMore
import Derived.Test.YtiaobffdggeofaaDoorOwn
import Derived.Test.YtiaobffdggeofaaDoorGx9
import Derived.Test.YtiaobffdggeofaaDoorBase
import Derived.Test.YtiaobffdggeofaaDoorBig
import Derived.Test.YtiaobffdggeofaaDoorOpn
import Derived.Test.YtiaobffdggeofaaDoorLeap
set_option linter.unusedVariables false
set_option linter.unusedSimpArgs false
namespace Go.Proofs.YtiaobffdggeofaaDoor.Pure
open Go.RowKit Go.Proofs.YtiaobffdggeofaaDoor.G Go.Proofs.YtiaobffdggeofaaDoorW.PrintWords Go.Proofs.YtiaobffdggeofaaDoorW.PrintLast Go.Proofs.YtiaobffdggeofaaDoorW.PrintMore

theorem chunk_encL (n m : Nat) (hm : m = n + 4) : ∀ (l : List S38) (i : Nat), i < l.length → chunk m (encL n l) i = encR n (rd_T38 l (i : Int)) := by
  intro l
  induction l with
  | nil => intro i h; simp at h
  | cons v l ih =>
    intro i h
    cases i with
    | zero =>
      unfold chunk
      rw [encL_cons, Nat.zero_mul, List.drop_zero, List.take_append, List.take_of_length_le (by rw [encR_length]; omega), encR_length, hm, Nat.sub_self, List.take_zero, List.append_nil]
      rfl
    | succ i =>
      have e : chunk m (encL n (v :: l)) (i + 1) = chunk m (encL n l) i := by
        unfold chunk
        rw [encL_cons, List.drop_append, List.drop_of_length_le (by rw [encR_length, Nat.succ_mul]; omega), List.nil_append, encR_length, Nat.succ_mul, ← hm, Nat.add_sub_cancel]
      rw [e, ih i (by simpa using h), rdS_nat (v :: l) (i + 1) h, rdS_nat l i (by simpa using h)]
      rfl
theorem recB_encR (n : Nat) (hn : W48 n) (x : S38) (hx : -2147483648 ≤ x.f1 ∧ x.f1 ≤ 2147483647) : recB n (encR n x) = ⟨sval n x.f0, x.f1⟩ := by
  unfold recB encR
  rw [List.take_append, List.take_of_length_le (by rw [enc_length]; omega), enc_length, Nat.sub_self, List.take_zero, List.append_nil, List.drop_append, List.drop_of_length_le (by rw [enc_length]; omega), enc_length, Nat.sub_self, List.drop_zero, List.nil_append,
    List.take_of_length_le (by rw [enc_length]; omega), bv_enc, bv_enc, sval_mod n hn.wid, sval_mod 4 (.inr (.inl rfl))]
  rw [show sval 4 x.f1 = x.f1 by rw [show sval 4 x.f1 = (x.f1 + 2147483648) % 4294967296 - 2147483648 from rfl]; omega]
theorem decL_encL (n m : Nat) (hn : W12 n m) (l : List S38) (hw : WfL l) : decL n m (encL n l) = l.map (fun x => ⟨sval n x.f0, x.f1⟩) := by
  have hp := hn.pos
  unfold decL
  rw [encL_length, ← hn.m, Nat.mul_div_cancel_left _ (by omega)]
  apply List.ext_getElem
  · simp
  · intro i h1 h2
    have hi : i < l.length := by simpa using h2
    simp only [List.getElem_map, List.getElem_range', Nat.zero_add, Nat.one_mul]
    rw [chunk_encL n m hn.m l i hi, rdS_nat l i hi, recB_encR n hn.w _ (hw _ (List.getElem_mem hi)).2]
theorem map_self (f : S38 → S38) (l : List S38) : l.map f = l ↔ ∀ x ∈ l, f x = x := by
  induction l with
  | nil => simp
  | cons a l ih => simp [ih]
theorem fits_all (n : Nat) (l : List S38) : decide (l.map (fun x => (⟨sval n x.f0, x.f1⟩ : S38)) = l) = l.all (fun x => fitsB x.f0 n) := by
  rw [Bool.eq_iff_iff, decide_eq_true_iff, map_self, List.all_eq_true]
  constructor
  · intro h x hx
    have := congrArg S38.f0 (h x hx)
    unfold fitsB
    simpa using this
  · intro h x hx
    have := h x hx
    unfold fitsB at this
    exact ext38 (by simpa using this) rfl
theorem enc_mod (n : Nat) (v : Int) : enc n (v % 256 ^ n) = enc n v := by
  have h := enc_bv (enc n v) (enc_byt n v)
  rw [enc_length, bv_enc] at h
  exact h
theorem enc_sval (n : Nat) (hn : W48 n) (c : List Int) (hc : Byt c) (hl : c.length = n) : enc n (IntKind.u64.wrap (sval n (bv c))) = c := by
  have hb := bv_bound c hc
  rw [hl] at hb
  have e : IntKind.u64.wrap (sval n (bv c)) % 256 ^ n = bv c := by
    rw [u64_def]
    rcases hn with rfl | rfl
    · rw [show sval 4 (bv c) = (bv c + 2147483648) % 4294967296 - 2147483648 from rfl]
      rw [show (256 : Int) ^ 4 = 4294967296 from rfl] at hb ⊢
      omega
    · rw [show sval 8 (bv c) = (bv c + 9223372036854775808) % 18446744073709551616 - 9223372036854775808 from rfl]
      rw [show (256 : Int) ^ 8 = 18446744073709551616 from rfl] at hb ⊢
      omega
  rw [← enc_mod, e]
  have := enc_bv c hc
  rw [hl] at this
  exact this
theorem encR_recB (n : Nat) (hn : W48 n) (c : List Int) (hc : Byt c) (hl : c.length = n + 4) : encR n (recB n c) = c := by
  unfold encR recB
  dsimp only
  rw [enc_sval n hn (c.take n) (hc.take _) (by rw [List.length_take]; omega), enc_sval 4 (.inl rfl) ((c.drop n).take 4) ((hc.drop _).take _) (by rw [List.length_take, List.length_drop]; omega),
    List.take_of_length_le (l := c.drop n) (by rw [List.length_drop]; omega), List.take_append_drop]
theorem encL_chunks (n m : Nat) (hn : W12 n m) (b : List Int) (hb : Byt b) : ∀ q : Nat, q * m ≤ b.length → encL n ((List.range q).map (fun i => recB n (chunk m b i))) = b.take (q * m) := by
  intro q
  induction q with
  | zero => intro _; simp [encL]
  | succ q ih =>
    intro h
    rw [Nat.succ_mul] at h
    have hcl : (chunk m b q).length = n + 4 := by have := hn.m; unfold chunk; rw [List.length_take, List.length_drop]; omega
    rw [List.range_succ, List.map_append, encL_append, ih (by omega), List.map_cons, List.map_nil, encL_cons, encR_recB n hn.w _ (chunk_byt hb q) hcl, Nat.succ_mul, List.take_add]
    simp [encL, chunk]
theorem encL_decL (n m : Nat) (hn : W12 n m) (b : List Int) (hb : Byt b) : encL n (decL n m b) = b.take (b.length / m * m) := by
  unfold decL
  rw [← List.range_eq_range']
  exact encL_chunks n m hn b hb _ (Nat.div_mul_le_self _ _)
theorem round_j2 (n m : Nat) (hn : W12 n m) (b : List Int) (hb : Byt b) (hl : b.length ≤ 1000) (k : Nat) (hk : 2000 < k) : zoneinfolaw17_LeapsRoundTrip.j2 k b n false = some true := by
  obtain ⟨k, rfl⟩ : ∃ j, k = j + 1 := ⟨k - 1, by omega⟩
  have hc := cut17 hn b.length (by omega)
  have hle : b.length / m * m ≤ b.length := Nat.div_mul_le_self _ _
  have hp := hn.pos
  rw [zoneinfolaw17_LeapsRoundTrip.j2, if_neg (by decide), hn.wr, if_neg (by omega), hc, if_pos (by omega), if_pos (by omega), Int.toNat_natCast]
  have hcl : (b.take (b.length / m * m)).length = b.length / m * m := by rw [List.length_take]; omega
  have hdl : (decL n m (b.take (b.length / m * m))).length = b.length / m := by rw [decL_length, hcl, Nat.mul_div_cancel _ (by omega)]
  have hdn : b.length / m ≤ 1000 := Nat.le_trans (Nat.div_le_self _ _) hl
  refine bnd (ldec_f n m hn _ (hb.take _) (by omega) _ (by omega)) ?_
  refine bnd (lenc_f n hn.w _ (decL_wf n m hn.w _) (by omega) _ (by omega)) ?_
  have he : encL n (decL n m (b.take (b.length / m * m))) = b.take (b.length / m * m) := by
    rw [encL_decL n m hn _ (hb.take _), hcl, Nat.mul_div_cancel _ (by omega), List.take_of_length_le (by omega)]
  rw [he]
  refine bnd (same01_f _ _ (by omega) _ (by omega)) ?_
  simp
theorem round_end (n m : Nat) (hn : W12 n m) (l : List S38) (hw : WfL l) (b : List Int) (hb : Byt b) (hl : l.length ≤ 100) (hbl : b.length ≤ 1000) (k : Nat) (hk : 2100 < k) :
    zoneinfolaw17_LeapsRoundTrip.l0 k l b n (l.all (fun x => fitsB x.f0 n)) (l.length : Int) = some true := by
  obtain ⟨k, rfl⟩ : ∃ j, k = j + 1 := ⟨k - 1, by omega⟩
  have hel := encL_length n l
  rw [← hn.m] at hel
  have hel2 : (encL n l).length ≤ 1600 := by rw [hel]; rcases hn with ⟨rfl, rfl⟩ | ⟨rfl, rfl⟩ <;> omega
  rw [zoneinfolaw17_LeapsRoundTrip.l0, if_neg (by omega)]
  refine bnd (lenc_f n hn.w l hw (by omega) _ (by omega)) ?_
  rw [hn.wr, if_pos (by rw [hel]; rcases hn with ⟨rfl, rfl⟩ | ⟨rfl, rfl⟩ <;> (unfold wrap64; omega))]
  refine bnd (ldec_f n m hn _ (encL_byt _ _) (by omega) _ (by omega)) ?_
  rw [decL_encL n m hn l hw]
  refine bnd (same17_f _ _ (by rw [List.length_map]; omega) _ (by rw [List.length_map]; omega)) ?_
  rw [fits_all, show (l.all (fun x => fitsB x.f0 n) != l.all (fun x => fitsB x.f0 n)) = false by simp]
  exact round_j2 n m hn b hb hbl k (by omega)
theorem round_loop (n m : Nat) (hn : W12 n m) (l : List S38) (hw : WfL l) (b : List Int) (hb : Byt b) (hl : l.length ≤ 100) (hbl : b.length ≤ 1000) : ∀ (d i k : Nat), i + d = l.length → d + 2100 < k →
    zoneinfolaw17_LeapsRoundTrip.l0 k l b n ((l.take i).all (fun x => fitsB x.f0 n)) (i : Int) = some true := by
  intro d
  induction d with
  | zero =>
    intro i k hi hk
    obtain rfl : i = l.length := by omega
    rw [List.take_length]
    exact round_end n m hn l hw b hb hl hbl k (by omega)
  | succ d ih =>
    intro i k hi hk
    obtain ⟨k, rfl⟩ : ∃ j, k = j + 1 := ⟨k - 1, by omega⟩
    have w1 : wrap64 ((i : Int) + 1) = ((i + 1 : Nat) : Int) := by unfold wrap64; omega
    have e : (l.take (i + 1)).all (fun x => fitsB x.f0 n) = ((l.take i).all (fun x => fitsB x.f0 n) && fitsB (rd_T38 l (i : Int)).f0 n) := by
      rw [List.take_succ_eq_append_getElem (by omega), List.all_append, rdS_nat l i (by omega)]
      simp
    have := ih (i + 1) k (by omega) (by omega)
    rw [zoneinfolaw17_LeapsRoundTrip.l0, if_pos (by omega)]
    by_cases hf : (l.take i).all (fun x => fitsB x.f0 n) = true
    · rw [if_pos hf, if_pos (by omega)]
      refine bnd (rfits_f _ (hw.rd i (by omega)).1 n hn.w.wid k (by omega)) ?_
      rw [e, hf, Bool.true_and] at this
      rw [w1]; exact this
    · rw [if_neg hf, w1]
      rw [e, Bool.eq_false_iff.2 hf, Bool.false_and] at this
      exact this
theorem LeapsRoundTrip : Opn.LeapsRoundTrip := by
  intro l b wide wl wb
  have hb := Byt.of wb.2
  have hw := WfL.of wl.2
  refine ⟨3001, ?_⟩
  unfold zoneinfolaw17_LeapsRoundTrip.f
  refine bnd (awake17 _ (by omega)) ?_
  rw [if_pos rfl]
  have far : zoneinfolaw17_LeapsRoundTrip.j0 3001 l b wide true = some true := by
    rw [zoneinfolaw17_LeapsRoundTrip.j0, if_pos rfl]
    exact bnd (awake17 _ (by omega)) rfl
  split
  · exact far
  by_cases h2 : (l.length : Int) > 100
  · rw [decide_eq_true h2]; exact far
  rw [decide_eq_false h2, zoneinfolaw17_LeapsRoundTrip.j0, if_neg (by decide)]
  obtain ⟨n, m, hn, hs⟩ := size12 wide
  refine bnd hs ?_
  exact round_loop n m hn l hw b hb (by omega) (by omega) l.length 0 _ (by omega) (by omega)
end Go.Proofs.YtiaobffdggeofaaDoor.Pure
