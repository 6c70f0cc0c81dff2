/- Times to bytes and back: the plain law behind the walk. No condition. -/
import Derived.Test.YtcghocecejgeiaaWWords
import Derived.Test.YtcghocecejgeiaaWMore
import Derived.Test.YtcghocecejgeiaaOwn
import Derived.Test.YtcghocecejgeiaaGx6
import Derived.Test.YtcghocecejgeiaaBase
import Derived.Test.YtcghocecejgeiaaBig
import Derived.Test.YtcghocecejgeiaaTrans
set_option linter.unusedVariables false
set_option linter.unusedSimpArgs false
namespace Go.Proofs.Ytcghocecejgeiaa.Pure
open Go.RowKit Go.Proofs.Ytcghocecejgeiaa.G Go.Proofs.YtcghocecejgeiaaW.PrintWords Go.Proofs.YtcghocecejgeiaaW.PrintLast Go.Proofs.YtcghocecejgeiaaW.PrintMore

theorem chunk_encs (n : Nat) : ∀ (zs : List Int) (i : Nat), i < zs.length → chunk n (encs n zs) i = enc n (IntKind.u64.wrap (rd zs (i : Int))) := by
  intro zs
  induction zs with
  | nil => intro i h; simp at h
  | cons v zs ih =>
    intro i h
    cases i with
    | zero =>
      unfold chunk
      rw [encs_cons, Nat.zero_mul, List.drop_zero, List.take_append, List.take_of_length_le (by rw [enc_length]; omega), enc_length, Nat.sub_self, List.take_zero, List.append_nil]
      rfl
    | succ i =>
      have e : chunk n (encs n (v :: zs)) (i + 1) = chunk n (encs n zs) i := by
        unfold chunk
        rw [encs_cons, List.drop_append, List.drop_of_length_le (by rw [enc_length, Nat.succ_mul]; omega), List.nil_append, enc_length, Nat.succ_mul, Nat.add_sub_cancel]
      rw [e, ih i (by simpa using h), rd_nat (v :: zs) (i + 1) h, rd_nat zs i (by simpa using h)]
      rfl
theorem decs_encs (n : Nat) (hn : W48 n) (zs : List Int) : decs n (encs n zs) = zs.map (fun v => sval n v) := by
  have hp : 0 < n := by rcases hn with rfl | rfl <;> omega
  unfold decs
  rw [encs_length, Nat.mul_div_cancel_left _ hp]
  apply List.ext_getElem
  · simp
  · intro i h1 h2
    have hi : i < zs.length := by simpa using h2
    simp only [List.getElem_map, List.getElem_range', Nat.zero_add, Nat.one_mul]
    rw [chunk_encs n zs i hi, bv_enc, sval_mod n hn.wid, rd_nat zs i hi]
theorem map_self (f : Int → Int) (zs : List Int) : zs.map f = zs ↔ ∀ x ∈ zs, f x = x := by
  induction zs with
  | nil => simp
  | cons a l ih => simp [ih]
theorem fits_all (n : Nat) (zs : List Int) : decide (zs.map (fun v => sval n v) = zs) = zs.all (fun v => fitsB v n) := by
  rw [Bool.eq_iff_iff, decide_eq_true_iff, map_self, List.all_eq_true]
  simp [fitsB]
theorem fits_8 (zs : List Int) (hz : I64s zs) : zs.all (fun v => fitsB v 8) = true := by
  rw [List.all_eq_true]
  intro x hx
  have := hz x hx
  unfold fitsB
  rw [beq_iff_eq]
  show (x + 9223372036854775808) % 18446744073709551616 - 9223372036854775808 = x
  omega
theorem enc_mod (n : Nat) (v : Int) : enc n (v % 256 ^ n) = enc n v := by
  have h := enc_bv (enc n v) (enc_byt n v)
  rw [enc_length, bv_enc] at h
  exact h
theorem enc_sval (n : Nat) (hn : W48 n) (c : List Int) (hc : Byt c) (hl : c.length = n) : enc n (IntKind.u64.wrap (sval n (bv c))) = c := by
  have hb := bv_bound c hc
  rw [hl] at hb
  have e : IntKind.u64.wrap (sval n (bv c)) % 256 ^ n = bv c := by
    rw [u64_def]
    rcases hn with rfl | rfl
    · rw [show sval 4 (bv c) = (bv c + 2147483648) % 4294967296 - 2147483648 from rfl]
      rw [show (256 : Int) ^ 4 = 4294967296 from rfl] at hb ⊢
      omega
    · rw [show sval 8 (bv c) = (bv c + 9223372036854775808) % 18446744073709551616 - 9223372036854775808 from rfl]
      rw [show (256 : Int) ^ 8 = 18446744073709551616 from rfl] at hb ⊢
      omega
  rw [← enc_mod, e]
  have := enc_bv c hc
  rw [hl] at this
  exact this
theorem encs_chunks (n : Nat) (hn : W48 n) (b : List Int) (hb : Byt b) : ∀ m : Nat, m * n ≤ b.length → encs n ((List.range m).map (fun i => sval n (bv (chunk n b i)))) = b.take (m * n) := by
  intro m
  induction m with
  | zero => intro _; simp [encs]
  | succ m ih =>
    intro h
    rw [Nat.succ_mul] at h
    have hcl : (chunk n b m).length = n := by unfold chunk; rw [List.length_take, List.length_drop]; omega
    rw [List.range_succ, List.map_append, encs_append, ih (by omega), List.map_cons, List.map_nil, encs_cons, enc_sval n hn (chunk n b m) (show Byt (chunk n b m) from (hb.drop _).take _) hcl, Nat.succ_mul, List.take_add]
    simp [encs, chunk]
theorem encs_decs (n : Nat) (hn : W48 n) (b : List Int) (hb : Byt b) : encs n (decs n b) = b.take (b.length / n * n) := by
  unfold decs
  rw [← List.range_eq_range']
  exact encs_chunks n hn b hb _ (Nat.div_mul_le_self _ _)
theorem decs_fit (n : Nat) (hn : W48 n) (b : List Int) : (decs n b).all (fun v => fitsB v n) = true := by
  rw [List.all_eq_true]
  intro x hx
  unfold decs at hx
  obtain ⟨i, -, rfl⟩ := List.mem_map.1 hx
  exact fitsB_sval n hn.wid _
theorem round_j1 (n : Nat) (hn : W48 n) (b : List Int) (hb : Byt b) (hl : b.length ≤ 1000) : zoneinfolaw15_TransitionsRoundTrip.j1 2500 b n false = some true := by
  have hc := cut_eq hn b (by omega)
  have hle : b.length / n * n ≤ b.length := Nat.div_mul_le_self _ _
  have hp : 0 < n := by rcases hn with rfl | rfl <;> omega
  rw [zoneinfolaw15_TransitionsRoundTrip.j1, if_neg (by decide), if_neg (by rcases hn with rfl | rfl <;> omega), hc, if_pos (by omega), if_pos (by omega), Int.toNat_natCast]
  have hcl : (b.take (b.length / n * n)).length = b.length / n * n := by rw [List.length_take]; omega
  have hdl : (decs n (b.take (b.length / n * n))).length = b.length / n := by rw [decs_length, hcl, Nat.mul_div_cancel _ hp]
  have hdn : b.length / n ≤ 1000 := by rcases hn with rfl | rfl <;> omega
  refine bnd (tdec_f n hn _ (hb.take _) (by omega) _ (by omega)) ?_
  rw [hdl, hcl, if_pos (by rcases hn with rfl | rfl <;> rw [w64 (by omega) (by omega)] <;> omega)]
  refine bnd (tenc_f n hn _ (by omega) _ (by omega)) ?_
  have he : encs n (decs n (b.take (b.length / n * n))) = b.take (b.length / n * n) := by
    rw [encs_decs n hn _ (hb.take _), hcl, Nat.mul_div_cancel _ hp, List.take_of_length_le (by omega)]
  rw [he]
  refine bnd (same01_f _ _ (by omega) _ (by omega)) ?_
  rw [if_pos (by simp)]
  refine bnd (tfit_f n hn _ (by omega) _ (by omega)) ?_
  rw [decs_fit n hn]
theorem TransitionsRoundTrip : zoneinfolaw15_TransitionsRoundTrip.Pure := by
  intro zs b wide _ _ hz _ _ hb
  have hb := Byt.of hb
  have hz := I64s.of hz
  refine ⟨2501, ?_⟩
  unfold zoneinfolaw15_TransitionsRoundTrip.f
  refine bnd (awake15 _ (by omega)) ?_
  rw [if_pos rfl]
  have far : zoneinfolaw15_TransitionsRoundTrip.j0 2501 zs b wide true = some true := by
    rw [zoneinfolaw15_TransitionsRoundTrip.j0, if_pos rfl]
    exact bnd (awake15 _ (by omega)) rfl
  split
  · exact far
  by_cases h2 : (zs.length : Int) > 200
  · rw [decide_eq_true h2]; exact far
  rw [decide_eq_false h2, zoneinfolaw15_TransitionsRoundTrip.j0, if_neg (by decide)]
  obtain ⟨n, hn, hs⟩ := size_f wide
  refine bnd hs ?_
  have hel := encs_length n zs
  have hel2 : (encs n zs).length ≤ 1600 := by rw [hel]; rcases hn with rfl | rfl <;> omega
  refine bnd (tenc_f n hn zs (by omega) _ (by omega)) ?_
  rw [if_pos (by rw [hel]; rcases hn with rfl | rfl <;> rw [w64 (by omega) (by omega)] <;> omega)]
  refine bnd (tdec_f n hn _ (encs_byt _ _) (by omega) _ (by omega)) ?_
  rw [decs_encs n hn]
  refine bnd (same15_f _ _ (by rw [List.length_map]; omega) _ (by rw [List.length_map]; omega)) ?_
  refine bnd (tfit_f n hn zs (by omega) _ (by omega)) ?_
  rw [fits_all, if_neg (by simp)]
  refine bnd (tfit_f 8 (.inr rfl) zs (by omega) _ (by omega)) ?_
  rw [fits_8 zs hz]
  exact round_j1 n hn b hb (by omega)
end Go.Proofs.Ytcghocecejgeiaa.Pure
