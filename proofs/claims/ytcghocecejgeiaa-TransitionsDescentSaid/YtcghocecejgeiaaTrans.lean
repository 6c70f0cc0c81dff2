/- Lists of times as bytes: what transitions and its reference answer, in plain lists. -/
import Derived.Test.YtcghocecejgeiaaWWords
import Derived.Test.YtcghocecejgeiaaWMore
import Derived.Test.YtcghocecejgeiaaOwn
import Derived.Test.YtcghocecejgeiaaGx1
import Derived.Test.YtcghocecejgeiaaGx2
import Derived.Test.YtcghocecejgeiaaGx3
import Derived.Test.YtcghocecejgeiaaGx4
import Derived.Test.YtcghocecejgeiaaBase
import Derived.Test.YtcghocecejgeiaaBig
set_option linter.unusedVariables false
set_option linter.unusedSimpArgs false
namespace Go.Proofs.Ytcghocecejgeiaa.Pure
open Go.RowKit Go.Proofs.Ytcghocecejgeiaa.G Go.Proofs.YtcghocecejgeiaaW.PrintWords Go.Proofs.YtcghocecejgeiaaW.PrintLast Go.Proofs.YtcghocecejgeiaaW.PrintMore

theorem same15_loop (a b : List Int) (hab : a.length = b.length) (hl : a.length ≤ 4611686018427387904) : ∀ (d i k : Nat), i + d = a.length → d < k →
    zoneinforef15_Same.l0 k a b (i : Int) = some (decide (a.drop i = b.drop i)) := by
  intro d
  induction d with
  | zero =>
    intro i k hi hk
    obtain ⟨k, rfl⟩ : ∃ m, k = m + 1 := ⟨k - 1, by omega⟩
    simp only [zoneinforef15_Same.l0]
    rw [if_neg (by omega)]
    simp [List.drop_eq_nil_of_le (show a.length ≤ i by omega), List.drop_eq_nil_of_le (show b.length ≤ i by omega)]
  | succ d ih =>
    intro i k hi hk
    obtain ⟨k, rfl⟩ : ∃ m, k = m + 1 := ⟨k - 1, by omega⟩
    simp only [zoneinforef15_Same.l0]
    rw [if_pos (by omega), if_pos (by omega), if_pos (by omega), drop_rd a i (by omega), drop_rd b i (by omega)]
    by_cases h : rd a (i : Int) = rd b (i : Int)
    · rw [if_pos h, w64 (by omega) (by omega), show (i : Int) + 1 = ((i + 1 : Nat) : Int) by omega, ih (i + 1) k (by omega) (by omega), h]
      simp
    · rw [if_neg h]; simp [h]
theorem same15_f (a b : List Int) (hl : a.length ≤ 4611686018427387904) (k : Nat) (hk : a.length < k) : zoneinforef15_Same.f k a b = some (decide (a = b)) := by
  unfold zoneinforef15_Same.f
  by_cases h : a.length = b.length
  · rw [if_pos (by omega)]
    have := same15_loop a b h hl a.length 0 k (by omega) hk
    simpa using this
  · rw [if_neg (by omega)]
    have : ¬ a = b := fun e => h (by rw [e])
    simp [this]
theorem sval_mod (n : Nat) (hn : Wid n) (v : Int) : sval n (IntKind.u64.wrap v % 256 ^ n) = sval n v := by
  rw [u64_def]
  rcases hn with rfl | rfl | rfl
  · show (_ + 128) % 256 - 128 = (v + 128) % 256 - 128; omega
  · show (_ + 2147483648) % 4294967296 - 2147483648 = (v + 2147483648) % 4294967296 - 2147483648; omega
  · show (_ + 9223372036854775808) % 18446744073709551616 - 9223372036854775808 = (v + 9223372036854775808) % 18446744073709551616 - 9223372036854775808; omega
theorem fitsB_sval (n : Nat) (hn : Wid n) (v : Int) : fitsB (sval n v) n = true := by
  unfold fitsB
  rw [beq_iff_eq]
  rcases hn with rfl | rfl | rfl
  · show ((v + 128) % 256 - 128 + 128) % 256 - 128 = (v + 128) % 256 - 128; omega
  · show ((v + 2147483648) % 4294967296 - 2147483648 + 2147483648) % 4294967296 - 2147483648 = (v + 2147483648) % 4294967296 - 2147483648; omega
  · show ((v + 9223372036854775808) % 18446744073709551616 - 9223372036854775808 + 9223372036854775808) % 18446744073709551616 - 9223372036854775808 = (v + 9223372036854775808) % 18446744073709551616 - 9223372036854775808; omega
theorem sval_range (n : Nat) (hn : Wid n) (v : Int) : -9223372036854775808 ≤ sval n v ∧ sval n v ≤ 9223372036854775807 := by
  rcases hn with rfl | rfl | rfl
  · rw [show sval 1 v = (v + 128) % 256 - 128 from rfl]; omega
  · rw [show sval 4 v = (v + 2147483648) % 4294967296 - 2147483648 from rfl]; omega
  · rw [show sval 8 v = (v + 9223372036854775808) % 18446744073709551616 - 9223372036854775808 from rfl]; omega

def W48 (n : Nat) : Prop := n = 4 ∨ n = 8
theorem W48.wid {n : Nat} (h : W48 n) : Wid n := by unfold W48 at h; unfold Wid; omega
def encs (n : Nat) (zs : List Int) : List Int := zs.flatMap (fun v => enc n (IntKind.u64.wrap v))
theorem encs_cons (n : Nat) (v : Int) (zs : List Int) : encs n (v :: zs) = enc n (IntKind.u64.wrap v) ++ encs n zs := by simp [encs]
theorem encs_append (n : Nat) (a b : List Int) : encs n (a ++ b) = encs n a ++ encs n b := by simp [encs]
theorem encs_length (n : Nat) (zs : List Int) : (encs n zs).length = n * zs.length := by
  induction zs with
  | nil => simp [encs]
  | cons v zs ih => rw [encs_cons, List.length_append, enc_length, ih, List.length_cons, Nat.mul_succ]; omega
theorem encs_byt (n : Nat) (zs : List Int) : Byt (encs n zs) := by
  induction zs with
  | nil => exact Byt.nil
  | cons v zs ih => rw [encs_cons]; exact (enc_byt _ _).append ih
theorem u64_nonneg (v : Int) : 0 ≤ IntKind.u64.wrap v ∧ IntKind.u64.wrap v < 18446744073709551616 := by rw [u64_def]; omega
theorem tenc_loop (n : Nat) (hn : W48 n) (zs : List Int) (hl : zs.length ≤ 1000000) : ∀ (d i k : Nat) (out : List Int), i + d = zs.length → d + 20 < k → out.length + n * d ≤ 1000000000 →
    transitions_Encode.l0 k n out zs zs.length i = some (out ++ encs n (zs.drop i)) := by
  intro d
  induction d with
  | zero =>
    intro i k out hi hk ho
    obtain ⟨k, rfl⟩ : ∃ j, k = j + 1 := ⟨k - 1, by omega⟩
    rw [transitions_Encode.l0, if_neg (by omega), List.drop_of_length_le (by omega)]
    simp [encs]
  | succ d ih =>
    intro i k out hi hk ho
    obtain ⟨k, rfl⟩ : ∃ j, k = j + 1 := ⟨k - 1, by omega⟩
    have hn8 : n ≤ 8 := hn.wid.le
    rw [Nat.mul_succ] at ho
    rw [transitions_Encode.l0, if_pos (by omega), if_pos (by omega), if_pos (by omega)]
    refine bnd (append_f [] n hn8 _ (u64_nonneg _).1 (by simp) k (by omega)) ?_
    rw [List.nil_append, if_pos (by rw [enc_length]; omega), w64 (by omega) (by omega), show (i : Int) + 1 = ((i + 1 : Nat) : Int) by omega, ih (i + 1) k _ (by omega) (by omega) (by rw [List.length_append, enc_length]; omega),
      drop_rd zs i (by omega), encs_cons, List.append_assoc]
theorem tenc_f (n : Nat) (hn : W48 n) (zs : List Int) (hl : zs.length ≤ 100000) (k : Nat) (hk : zs.length + 30 < k) : transitions_Encode.f k zs n = some (encs n zs) := by
  have hw : wrap64 ((zs.length : Int) * n) = zs.length * n := by
    rcases hn with rfl | rfl <;> exact w64 (by omega) (by omega)
  unfold transitions_Encode.f
  rw [hw, if_pos (by rcases hn with rfl | rfl <;> omega), if_pos (by rcases hn with rfl | rfl <;> omega)]
  have := tenc_loop n hn zs (by omega) zs.length 0 k [] (by omega) (by omega) (by rcases hn with rfl | rfl <;> simp <;> omega)
  simpa using this
theorem rtenc_loop (n : Nat) (hn : W48 n) (zs : List Int) (hl : zs.length ≤ 1000000) : ∀ (d i k : Nat) (out : List Int), i + d = zs.length → d + 20 < k → out.length + n * d ≤ 1000000000 →
    zoneinforef15_Encode.l0 k zs n out i = some (out ++ encs n (zs.drop i)) := by
  intro d
  induction d with
  | zero =>
    intro i k out hi hk ho
    obtain ⟨k, rfl⟩ : ∃ j, k = j + 1 := ⟨k - 1, by omega⟩
    rw [zoneinforef15_Encode.l0, if_neg (by omega), List.drop_of_length_le (by omega)]
    simp [encs]
  | succ d ih =>
    intro i k out hi hk ho
    obtain ⟨k, rfl⟩ : ∃ j, k = j + 1 := ⟨k - 1, by omega⟩
    have hn8 : n ≤ 8 := hn.wid.le
    rw [Nat.mul_succ] at ho
    rw [zoneinforef15_Encode.l0, if_pos (by omega), if_pos (by omega)]
    refine bnd (rappend_f out n hn8 _ (u64_nonneg _).1 (u64_nonneg _).2 (by omega) k (by omega)) ?_
    rw [w64 (by omega) (by omega), show (i : Int) + 1 = ((i + 1 : Nat) : Int) by omega, ih (i + 1) k _ (by omega) (by omega) (by rw [List.length_append, enc_length]; omega),
      drop_rd zs i (by omega), encs_cons, List.append_assoc]
theorem rtenc_f (n : Nat) (hn : W48 n) (zs : List Int) (hl : zs.length ≤ 100000) (k : Nat) (hk : zs.length + 30 < k) : zoneinforef15_Encode.f k zs n = some (encs n zs) := by
  unfold zoneinforef15_Encode.f
  have := rtenc_loop n hn zs (by omega) zs.length 0 k [] (by omega) (by omega) (by rcases hn with rfl | rfl <;> simp <;> omega)
  simpa using this
def chunk (n : Nat) (b : List Int) (i : Nat) : List Int := (b.drop (i * n)).take n
def decs (n : Nat) (b : List Int) : List Int := (List.range' 0 (b.length / n)).map (fun i => sval n (bv (chunk n b i)))
theorem decs_length (n : Nat) (b : List Int) : (decs n b).length = b.length / n := by simp [decs]
theorem fieldV_ok {l : List Int} {off n : Nat} (h : off + n ≤ l.length) : fieldV l off n = bv ((l.drop off).take n) := by
  unfold fieldV fieldOk
  rw [if_pos (decide_eq_true (by omega)), Int.toNat_natCast]
theorem tdec_loop (n : Nat) (hn : W48 n) (b : List Int) (hb : Byt b) (hl : b.length ≤ 1000000) : ∀ (d i k : Nat) (out : List Int), i + d = b.length / n → d + 20 < k → out.length + d ≤ 1000000000 →
    transitions_Decode.l0 k b n out ((i * n : Nat) : Int) = some (out ++ (List.range' i d).map (fun i => sval n (bv (chunk n b i)))) := by
  intro d
  induction d with
  | zero =>
    intro i k out hi hk ho
    obtain ⟨k, rfl⟩ : ∃ j, k = j + 1 := ⟨k - 1, by omega⟩
    rw [transitions_Decode.l0, if_neg (by rcases hn with rfl | rfl <;> rw [w64 (by omega) (by omega)] <;> omega)]
    simp
  | succ d ih =>
    intro i k out hi hk ho
    obtain ⟨k, rfl⟩ : ∃ j, k = j + 1 := ⟨k - 1, by omega⟩
    have hle : i * n + n ≤ b.length := by rcases hn with rfl | rfl <;> omega
    have hn8 : n ≤ 8 := hn.wid.le
    have hw : wrap64 (((i * n : Nat) : Int) + n) = (((i + 1) * n : Nat) : Int) := by
      rcases hn with rfl | rfl <;> rw [w64 (by omega) (by omega)] <;> omega
    rw [transitions_Decode.l0, hw, if_pos (by rcases hn with rfl | rfl <;> omega)]
    refine bnd (int_f b hb (by omega) _ (by omega) n hn.wid k (by omega)) ?_
    dsimp only
    rw [if_pos (by omega), fieldV_ok hle, ih (i + 1) k _ (by omega) (by omega) (by rw [List.length_append]; simp; omega)]
    rw [List.range'_succ, List.map_cons, List.append_assoc]
    rfl
theorem tdec_f (n : Nat) (hn : W48 n) (b : List Int) (hb : Byt b) (hl : b.length ≤ 100000) (k : Nat) (hk : b.length + 30 < k) : transitions_Decode.f k b n = some (decs n b) := by
  unfold transitions_Decode.f
  have := tdec_loop n hn b hb (by omega) (b.length / n) 0 k [] (by omega) (by rcases hn with rfl | rfl <;> omega) (by rcases hn with rfl | rfl <;> simp <;> omega)
  simpa [decs] using this
theorem rint_chunk (n : Nat) (hn : W48 n) (b : List Int) (hb : Byt b) (i : Nat) (hcl : (chunk n b i).length = n) (k : Nat) (hk : 10 < k) : zoneinforef01_Int.f k (chunk n b i) 0 n = some (sval n (bv (chunk n b i)), fieldOk (chunk n b i) 0 n) := by
  have hn8 := hn.wid.le
  rw [rint_f (chunk n b i) ((hb.drop _).take _) (by omega) 0 (by omega) n hn.wid k hk]
  have := fieldV_ok (l := chunk n b i) (off := 0) (n := n) (by omega)
  rw [show ((0 : Nat) : Int) = 0 from rfl] at this
  rw [this, List.drop_zero, List.take_of_length_le (by omega)]
theorem dec_arith (n : Nat) (hn : W48 n) (B i d : Nat) (h : i + (d + 1) = B / n) (hB : B ≤ 1000000) : ∃ P Q : Nat, P = i * n ∧ Q = i * n + n ∧ Q ≤ B ∧ P ≤ Q ∧ ¬ ((n : Int) = 0) ∧ (i : Int) < wrap64 ((B : Int) / n) ∧ wrap64 ((i : Int) * n) = (P : Int) ∧ wrap64 ((i : Int) + 1) = ((i + 1 : Nat) : Int) ∧ wrap64 (((i + 1 : Nat) : Int) * n) = (Q : Int) := by
  refine ⟨i * n, i * n + n, rfl, rfl, ?_⟩
  rcases hn with rfl | rfl
  · refine ⟨by omega, by omega, by omega, ?_, ?_, ?_, ?_⟩ <;> rw [w64 (by omega) (by omega)] <;> omega
  · refine ⟨by omega, by omega, by omega, ?_, ?_, ?_, ?_⟩ <;> rw [w64 (by omega) (by omega)] <;> omega
theorem chunk_cut (n : Nat) (b : List Int) (i P Q : Nat) (hP : P = i * n) (hQ : Q = i * n + n) : (b.take Q).drop P = chunk n b i := by
  subst hP hQ; unfold chunk; rw [List.drop_take, Nat.add_sub_cancel_left]
theorem chunk_len (n : Nat) (b : List Int) (i Q : Nat) (hQ : Q = i * n + n) (h : Q ≤ b.length) : (chunk n b i).length = n := by
  subst hQ; unfold chunk; rw [List.length_take, List.length_drop]; exact Nat.min_eq_left (Nat.le_sub_of_add_le (by rw [Nat.add_comm]; exact h))
theorem rtdec_step (n : Nat) (b : List Int) (out : List Int) (i k P Q : Nat) (v : Int) (ok : Bool) (c0 : ¬ ((n : Int) = 0)) (c1 : (i : Int) < wrap64 ((b.length : Int) / n)) (w1 : wrap64 ((i : Int) * n) = (P : Int)) (w2 : wrap64 ((i : Int) + 1) = ((i + 1 : Nat) : Int)) (w3 : wrap64 (((i + 1 : Nat) : Int) * n) = (Q : Int))
    (h1 : P ≤ Q) (h2 : Q ≤ b.length) (hs : (b.take Q).drop P = chunk n b i) (hr : zoneinforef01_Int.f k (chunk n b i) 0 n = some (v, ok)) (ho : out.length < 17592186044416) :
    zoneinforef15_Decode.l0 (k + 1) b n out i = zoneinforef15_Decode.l0 k b n (out ++ [v]) ((i + 1 : Nat) : Int) := by
  rw [zoneinforef15_Decode.l0, if_neg c0, if_pos c1, w1, w2, w3, if_pos (Int.natCast_nonneg P), if_pos (Int.ofNat_le.2 h1), if_pos (Int.ofNat_le.2 h2), Int.toNat_natCast, Int.toNat_natCast, hs]
  refine bnd hr ?_
  rw [if_pos ho]
theorem rtdec_loop (n : Nat) (hn : W48 n) (b : List Int) (hb : Byt b) (hl : b.length ≤ 1000000) : ∀ (d i k : Nat) (out : List Int), i + d = b.length / n → d + 20 < k → out.length + d ≤ 1000000000 →
    zoneinforef15_Decode.l0 k b n out i = some (out ++ (List.range' i d).map (fun i => sval n (bv (chunk n b i)))) := by
  intro d
  induction d with
  | zero =>
    intro i k out hi hk ho
    obtain ⟨k, rfl⟩ : ∃ j, k = j + 1 := ⟨k - 1, by omega⟩
    rw [zoneinforef15_Decode.l0, if_neg (by rcases hn with rfl | rfl <;> omega), if_neg (by rcases hn with rfl | rfl <;> rw [w64 (by omega) (by omega)] <;> omega)]
    simp
  | succ d ih =>
    intro i k out hi hk ho
    obtain ⟨k, rfl⟩ : ∃ j, k = j + 1 := ⟨k - 1, by omega⟩
    have e1 : i + 1 + d = b.length / n := by omega
    have e2 : d + 20 < k := by omega
    have e3 : out.length + 1 + d ≤ 1000000000 := by omega
    have e4 : out.length < 17592186044416 := by omega
    have e5 : 10 < k := by omega
    obtain ⟨P, Q, hP, hQ, h2, h1, c0, c1, w1, w2, w3⟩ := dec_arith n hn b.length i d hi hl
    have hr := rint_chunk n hn b hb i (chunk_len n b i Q hQ h2) k e5
    rw [rtdec_step n b out i k P Q _ _ c0 c1 w1 w2 w3 h1 h2 (chunk_cut n b i P Q hP hQ) hr e4]
    have := ih (i + 1) k (out ++ [sval n (bv (chunk n b i))]) e1 e2 (by rw [List.length_append]; exact e3)
    rw [List.range'_succ, List.map_cons]
    rw [List.append_assoc] at this
    exact this
theorem rtdec_f (n : Nat) (hn : W48 n) (b : List Int) (hb : Byt b) (hl : b.length ≤ 100000) (k : Nat) (hk : b.length + 30 < k) : zoneinforef15_Decode.f k b n = some (decs n b) := by
  unfold zoneinforef15_Decode.f
  have := rtdec_loop n hn b hb (by omega) (b.length / n) 0 k [] (by omega) (by rcases hn with rfl | rfl <;> omega) (by rcases hn with rfl | rfl <;> simp <;> omega)
  simpa [decs] using this
theorem tfit_loop (n : Nat) (hn : W48 n) (zs : List Int) (hl : zs.length ≤ 1000000) : ∀ (d i k : Nat), i + d = zs.length → d + 20 < k →
    transitions_Fit.l0 k n zs zs.length i = some ((zs.drop i).all (fun v => fitsB v n)) := by
  intro d
  induction d with
  | zero =>
    intro i k hi hk
    obtain ⟨k, rfl⟩ : ∃ j, k = j + 1 := ⟨k - 1, by omega⟩
    rw [transitions_Fit.l0, if_neg (by omega), List.drop_of_length_le (by omega)]
    rfl
  | succ d ih =>
    intro i k hi hk
    obtain ⟨k, rfl⟩ : ∃ j, k = j + 1 := ⟨k - 1, by omega⟩
    rw [transitions_Fit.l0, if_pos (by omega), if_pos (by omega), if_pos (by omega)]
    refine bnd (fits_f _ n hn.wid) ?_
    rw [drop_rd zs i (by omega), List.all_cons]
    by_cases h : fitsB (rd zs (i : Int)) n = true
    · rw [if_pos h, w64 (by omega) (by omega), show (i : Int) + 1 = ((i + 1 : Nat) : Int) by omega, ih (i + 1) k (by omega) (by omega), h, Bool.true_and]
    · rw [if_neg h, Bool.eq_false_iff.2 h, Bool.false_and]
theorem tfit_f (n : Nat) (hn : W48 n) (zs : List Int) (hl : zs.length ≤ 100000) (k : Nat) (hk : zs.length + 30 < k) : transitions_Fit.f k zs n = some (zs.all (fun v => fitsB v n)) := by
  unfold transitions_Fit.f
  have := tfit_loop n hn zs (by omega) zs.length 0 k (by omega) (by omega)
  simpa using this
def I64s (zs : List Int) : Prop := ∀ x ∈ zs, -9223372036854775808 ≤ x ∧ x ≤ 9223372036854775807
theorem I64s.of {l : List Int} (h : ∀ x ∈ l, (Lit.int .i64 x).wf = true) : I64s l := fun x hx => wf_i64 (h x hx)
theorem I64s.rd {zs : List Int} (h : I64s zs) (i : Nat) (hi : i < zs.length) : -9223372036854775808 ≤ rd zs (i : Int) ∧ rd zs (i : Int) ≤ 9223372036854775807 := by
  rw [rd_nat zs i hi]; exact h _ (List.getElem_mem hi)
theorem rtfit_loop (n : Nat) (hn : W48 n) (zs : List Int) (hz : I64s zs) (hl : zs.length ≤ 1000000) : ∀ (d i k : Nat), i + d = zs.length → d + 20 < k →
    zoneinforef15_Fit.l0 k zs n i = some ((zs.drop i).all (fun v => fitsB v n)) := by
  intro d
  induction d with
  | zero =>
    intro i k hi hk
    obtain ⟨k, rfl⟩ : ∃ j, k = j + 1 := ⟨k - 1, by omega⟩
    rw [zoneinforef15_Fit.l0, if_neg (by omega), List.drop_of_length_le (by omega)]
    rfl
  | succ d ih =>
    intro i k hi hk
    obtain ⟨k, rfl⟩ : ∃ j, k = j + 1 := ⟨k - 1, by omega⟩
    rw [zoneinforef15_Fit.l0, if_pos (by omega), if_pos (by omega)]
    refine bnd (rfits_f _ (hz.rd i (by omega)) n hn.wid k (by omega)) ?_
    rw [drop_rd zs i (by omega), List.all_cons]
    by_cases h : fitsB (rd zs (i : Int)) n = true
    · rw [if_pos h, w64 (by omega) (by omega), show (i : Int) + 1 = ((i + 1 : Nat) : Int) by omega, ih (i + 1) k (by omega) (by omega), h, Bool.true_and]
    · rw [if_neg h, Bool.eq_false_iff.2 h, Bool.false_and]
theorem rtfit_f (n : Nat) (hn : W48 n) (zs : List Int) (hz : I64s zs) (hl : zs.length ≤ 100000) (k : Nat) (hk : zs.length + 30 < k) : zoneinforef15_Fit.f k zs n = some (zs.all (fun v => fitsB v n)) := by
  unfold zoneinforef15_Fit.f
  have := rtfit_loop n hn zs hz (by omega) zs.length 0 k (by omega) (by omega)
  simpa using this
theorem rdesc_loop (zs : List Int) (hl : zs.length ≤ 1000000) : ∀ (d i k : Nat), i + d = zs.length → d < k → 1 ≤ i → (∀ j ∈ List.range (i - 1), rd zs (j : Int) < rd zs ((j : Int) + 1)) →
    zoneinforef15_Descent.l0 k zs i = some (descW zs) := by
  intro d
  induction d with
  | zero =>
    intro i k hi hk h1 h
    obtain ⟨k, rfl⟩ : ∃ j, k = j + 1 := ⟨k - 1, by omega⟩
    rw [zoneinforef15_Descent.l0, if_neg (by omega), descW_none (by rw [show zs.length - 1 = i - 1 by omega]; exact h)]
  | succ d ih =>
    intro i k hi hk h1 h
    obtain ⟨k, rfl⟩ : ∃ j, k = j + 1 := ⟨k - 1, by omega⟩
    have w1 : wrap64 ((i : Int) - 1) = ((i - 1 : Nat) : Int) := by rw [w64 (by omega) (by omega)]; omega
    have e1 : ((i - 1 : Nat) : Int) + 1 = (i : Int) := by omega
    rw [zoneinforef15_Descent.l0, if_pos (by omega), w1, if_pos (by omega), if_pos (by omega), if_pos (by omega)]
    by_cases hc : rd zs ((i - 1 : Nat) : Int) ≥ rd zs (i : Int)
    · rw [if_pos hc, descW_some (k := i - 1) (by omega) h (by rw [e1]; exact hc), e1]
    · rw [if_neg hc, w64 (by omega) (by omega), show (i : Int) + 1 = ((i + 1 : Nat) : Int) by omega]
      refine ih (i + 1) k (by omega) (by omega) (by omega) (fun j hj => ?_)
      rw [List.mem_range] at hj
      rcases Nat.lt_or_ge j (i - 1) with h3 | h3
      · exact h j (List.mem_range.2 h3)
      · obtain rfl : j = i - 1 := by omega
        rw [e1]; omega
theorem rdesc_f (zs : List Int) (hl : zs.length ≤ 100000) (k : Nat) (hk : zs.length + 30 < k) : zoneinforef15_Descent.f k zs = some (descW zs) := by
  unfold zoneinforef15_Descent.f
  rcases Nat.eq_zero_or_pos zs.length with h0 | h0
  · obtain ⟨k, rfl⟩ : ∃ j, k = j + 1 := ⟨k - 1, by omega⟩
    rw [zoneinforef15_Descent.l0, if_neg (by omega), descW_none (by simp [h0])]
  · exact rdesc_loop zs (by omega) (zs.length - 1) 1 k (by omega) (by omega) (by omega) (by simp)
theorem awake15 (k : Nat) (hk : 60 ≤ k) : zoneinfolaw15_awake.f k = some true :=
  at_rounds (fun k => zoneinfolaw15_awake.mono k) hk (by decide +kernel)
theorem size_f (a : Bool) : ∃ n : Nat, W48 n ∧ zoneinforef14_Size.f a = some (n : Int) := by
  cases a
  · exact ⟨4, .inl rfl, rfl⟩
  · exact ⟨8, .inr rfl, rfl⟩
theorem cut_eq {n : Nat} (hn : W48 n) (b : List Int) (hl : b.length ≤ 100000) : wrap64 ((wrap64 ((b.length : Int) / n)) * n) = ((b.length / n * n : Nat) : Int) := by
  rcases hn with rfl | rfl <;> rw [w64 (x := (b.length : Int) / _) (by omega) (by omega), w64 (by omega) (by omega)] <;> omega
end Go.Proofs.Ytcghocecejgeiaa.Pure
