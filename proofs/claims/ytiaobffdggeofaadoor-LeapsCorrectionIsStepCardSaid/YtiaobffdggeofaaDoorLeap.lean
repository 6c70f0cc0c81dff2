/- Leap second records: what leaps and its reference answer, in plain lists. -/
import Derived.Test.YtiaobffdggeofaaDoorWWords
import Derived.Test.YtiaobffdggeofaaDoorWMore
import Derived.Test.YtiaobffdggeofaaDoorOwn
import Derived.Test.YtiaobffdggeofaaDoorGx2
import Derived.Test.YtiaobffdggeofaaDoorGx3
import Derived.Test.YtiaobffdggeofaaDoorGx4
import Derived.Test.YtiaobffdggeofaaDoorGx5
import Derived.Test.YtiaobffdggeofaaDoorGx6
import Derived.Test.YtiaobffdggeofaaDoorGx7
import Derived.Test.YtiaobffdggeofaaDoorGx8
import Derived.Test.YtiaobffdggeofaaDoorBase
import Derived.Test.YtiaobffdggeofaaDoorBig
import Derived.Test.YtiaobffdggeofaaDoorOpn
set_option linter.unusedVariables false
set_option linter.unusedSimpArgs false
namespace Go.Proofs.YtiaobffdggeofaaDoor.Pure
open Go.RowKit Go.Proofs.YtiaobffdggeofaaDoor.G Go.Proofs.YtiaobffdggeofaaDoorW.PrintWords Go.Proofs.YtiaobffdggeofaaDoorW.PrintLast Go.Proofs.YtiaobffdggeofaaDoorW.PrintMore

theorem ext38 {a b : S38} (h0 : a.f0 = b.f0) (h1 : a.f1 = b.f1) : a = b := by
  cases a; cases b; simp at h0 h1; rw [h0, h1]
instance : DecidableEq S38 := fun a b => if h : a.f0 = b.f0 ∧ a.f1 = b.f1 then .isTrue (ext38 h.1 h.2) else .isFalse (fun e => h (by subst e; exact ⟨rfl, rfl⟩))
theorem rdS_nat (l : List S38) (i : Nat) (h : i < l.length) : rd_T38 l (i : Int) = l[i] := by
  unfold rd_T38; simp [List.getD_eq_getElem?_getD, List.getElem?_eq_getElem h]
theorem drop_rdS (l : List S38) (i : Nat) (h : i < l.length) : l.drop i = rd_T38 l (i : Int) :: l.drop (i + 1) := by
  rw [rdS_nat l i h]; exact List.drop_eq_getElem_cons h
def WfL (l : List S38) : Prop := ∀ x ∈ l, (-9223372036854775808 ≤ x.f0 ∧ x.f0 ≤ 9223372036854775807) ∧ (-2147483648 ≤ x.f1 ∧ x.f1 ≤ 2147483647)
theorem WfL.of {l : List S38} (h : ∀ x ∈ l, Opn.Wf38 x) : WfL l := fun x hx => ⟨wf_i64 (h x hx).1, wf_i32 (h x hx).2⟩
theorem WfL.rd {l : List S38} (h : WfL l) (i : Nat) (hi : i < l.length) : (-9223372036854775808 ≤ (rd_T38 l (i : Int)).f0 ∧ (rd_T38 l (i : Int)).f0 ≤ 9223372036854775807) ∧ (-2147483648 ≤ (rd_T38 l (i : Int)).f1 ∧ (rd_T38 l (i : Int)).f1 ≤ 2147483647) := by
  rw [rdS_nat l i hi]; exact h _ (List.getElem_mem hi)
theorem same17_loop (a b : List S38) (hab : a.length = b.length) (hl : a.length ≤ 1000000) : ∀ (d i k : Nat), i + d = a.length → d < k →
    zoneinforef17_Same.l0 k a b (i : Int) = some (decide (a.drop i = b.drop i)) := by
  intro d
  induction d with
  | zero =>
    intro i k hi hk
    obtain ⟨k, rfl⟩ : ∃ j, k = j + 1 := ⟨k - 1, by omega⟩
    rw [zoneinforef17_Same.l0, if_neg (by omega), List.drop_of_length_le (by omega), List.drop_of_length_le (by omega)]
    simp
  | succ d ih =>
    intro i k hi hk
    obtain ⟨k, rfl⟩ : ∃ j, k = j + 1 := ⟨k - 1, by omega⟩
    rw [zoneinforef17_Same.l0, if_pos (by omega), if_pos (by omega), if_pos (by omega), drop_rdS a i (by omega), drop_rdS b i (by omega)]
    by_cases h : rd_T38 a (i : Int) = rd_T38 b (i : Int)
    · rw [if_neg (by simp [h]), w64 (by omega) (by omega), show (i : Int) + 1 = ((i + 1 : Nat) : Int) by omega, ih (i + 1) k (by omega) (by omega), h]
      simp
    · rw [if_pos ?_]
      · simp [h]
      · rw [Bool.or_eq_true]
        by_cases h0 : (rd_T38 a (i : Int)).f0 = (rd_T38 b (i : Int)).f0
        · exact .inr (by simp; exact fun h1 => h (ext38 h0 h1))
        · exact .inl (by simpa using h0)
theorem same17_f (a b : List S38) (hl : a.length ≤ 1000000) (k : Nat) (hk : a.length < k) : zoneinforef17_Same.f k a b = some (decide (a = b)) := by
  unfold zoneinforef17_Same.f
  by_cases h : a.length = b.length
  · rw [if_pos (by omega)]
    have := same17_loop a b h hl a.length 0 k (by omega) hk
    simpa using this
  · rw [if_neg (by omega)]
    have : ¬ a = b := fun e => h (by rw [e])
    simp [this]
def W48 (n : Nat) : Prop := n = 4 ∨ n = 8
theorem W48.wid {n : Nat} (h : W48 n) : Wid n := by unfold W48 at h; unfold Wid; omega
theorem W48.le {n : Nat} (h : W48 n) : n ≤ 8 := by unfold W48 at h; omega
theorem size_f (a : Bool) : ∃ n : Nat, W48 n ∧ zoneinforef14_Size.f a = some (n : Int) := by
  cases a
  · exact ⟨4, .inl rfl, rfl⟩
  · exact ⟨8, .inr rfl, rfl⟩
theorem u64_nonneg (v : Int) : 0 ≤ IntKind.u64.wrap v ∧ IntKind.u64.wrap v < 18446744073709551616 := by rw [u64_def]; omega
theorem sval_mod (n : Nat) (hn : Wid n) (v : Int) : sval n (IntKind.u64.wrap v % 256 ^ n) = sval n v := by
  rw [u64_def]
  rcases hn with rfl | rfl | rfl
  · show (_ + 128) % 256 - 128 = (v + 128) % 256 - 128; omega
  · show (_ + 2147483648) % 4294967296 - 2147483648 = (v + 2147483648) % 4294967296 - 2147483648; omega
  · show (_ + 9223372036854775808) % 18446744073709551616 - 9223372036854775808 = (v + 9223372036854775808) % 18446744073709551616 - 9223372036854775808; omega
theorem sval_range (n : Nat) (hn : Wid n) (v : Int) : -9223372036854775808 ≤ sval n v ∧ sval n v ≤ 9223372036854775807 := by
  rcases hn with rfl | rfl | rfl
  · rw [show sval 1 v = (v + 128) % 256 - 128 from rfl]; omega
  · rw [show sval 4 v = (v + 2147483648) % 4294967296 - 2147483648 from rfl]; omega
  · rw [show sval 8 v = (v + 9223372036854775808) % 18446744073709551616 - 9223372036854775808 from rfl]; omega
theorem sval4_range (v : Int) : -2147483648 ≤ sval 4 v ∧ sval 4 v ≤ 2147483647 := by
  rw [show sval 4 v = (v + 2147483648) % 4294967296 - 2147483648 from rfl]; omega
theorem w32 {x : Int} (h0 : -2147483648 ≤ x) (h1 : x ≤ 2147483647) : wrap32 x = x := by unfold wrap32; omega
/-- A record as bytes, and bytes as a record. -/
def encR (n : Nat) (x : S38) : List Int := enc n (IntKind.u64.wrap x.f0) ++ enc 4 (IntKind.u64.wrap x.f1)
def recB (n : Nat) (c : List Int) : S38 := ⟨sval n (bv (c.take n)), sval 4 (bv ((c.drop n).take 4))⟩
def encL (n : Nat) (l : List S38) : List Int := l.flatMap (encR n)
theorem encR_length (n : Nat) (x : S38) : (encR n x).length = n + 4 := by unfold encR; rw [List.length_append, enc_length, enc_length]
theorem encR_byt (n : Nat) (x : S38) : Byt (encR n x) := (enc_byt _ _).append (enc_byt _ _)
theorem encL_cons (n : Nat) (x : S38) (l : List S38) : encL n (x :: l) = encR n x ++ encL n l := by simp [encL]
theorem encL_append (n : Nat) (a b : List S38) : encL n (a ++ b) = encL n a ++ encL n b := by simp [encL]
theorem encL_length (n : Nat) (l : List S38) : (encL n l).length = (n + 4) * l.length := by
  induction l with
  | nil => simp [encL]
  | cons v l ih => rw [encL_cons, List.length_append, encR_length, ih, List.length_cons, Nat.mul_succ]; omega
theorem encL_byt (n : Nat) (l : List S38) : Byt (encL n l) := by
  induction l with
  | nil => exact Byt.nil
  | cons v l ih => rw [encL_cons]; exact (encR_byt _ _).append ih
theorem lenc_loop (n : Nat) (hn : W48 n) (l : List S38) (hw : WfL l) (hl : l.length ≤ 1000000) : ∀ (d i k : Nat) (out : List Int), i + d = l.length → d + 20 < k → out.length + 12 * d ≤ 1000000000 →
    leaps_Encode.l0 k n out l l.length i = some (out ++ encL n (l.drop i)) := by
  intro d
  induction d with
  | zero =>
    intro i k out hi hk ho
    obtain ⟨k, rfl⟩ : ∃ j, k = j + 1 := ⟨k - 1, by omega⟩
    rw [leaps_Encode.l0, if_neg (by omega), List.drop_of_length_le (by omega)]
    simp [encL]
  | succ d ih =>
    intro i k out hi hk ho
    obtain ⟨k, rfl⟩ : ∃ j, k = j + 1 := ⟨k - 1, by omega⟩
    have hn8 : n ≤ 8 := hn.le
    have hr := (hw.rd i (by omega)).2
    rw [leaps_Encode.l0, if_pos (by omega), if_pos (by omega), if_pos (by omega)]
    refine bnd (append_f out n hn8 _ (u64_nonneg _).1 (by omega) k (by omega)) ?_
    rw [w64 (x := (rd_T38 l (i : Int)).f1) (by omega) (by omega)]
    refine bnd (append_f _ 4 (by omega) _ (u64_nonneg _).1 (by rw [List.length_append, enc_length]; omega) k (by omega)) ?_
    rw [w64 (by omega) (by omega), show (i : Int) + 1 = ((i + 1 : Nat) : Int) by omega, ih (i + 1) k _ (by omega) (by omega) (by rw [List.length_append, List.length_append, enc_length, enc_length]; omega),
      drop_rdS l i (by omega), encL_cons]
    simp [encR]
theorem lenc_f (n : Nat) (hn : W48 n) (l : List S38) (hw : WfL l) (hl : l.length ≤ 100000) (k : Nat) (hk : l.length + 30 < k) : leaps_Encode.f k l n = some (encL n l) := by
  unfold leaps_Encode.f
  have := lenc_loop n hn l hw (by omega) l.length 0 k [] (by omega) (by omega) (by simp; omega)
  simpa using this
theorem rlenc_loop (n : Nat) (hn : W48 n) (l : List S38) (hw : WfL l) (hl : l.length ≤ 1000000) : ∀ (d i k : Nat) (out : List Int), i + d = l.length → d + 20 < k → out.length + 12 * d ≤ 1000000000 →
    zoneinforef17_Encode.l0 k l n out i = some (out ++ encL n (l.drop i)) := by
  intro d
  induction d with
  | zero =>
    intro i k out hi hk ho
    obtain ⟨k, rfl⟩ : ∃ j, k = j + 1 := ⟨k - 1, by omega⟩
    rw [zoneinforef17_Encode.l0, if_neg (by omega), List.drop_of_length_le (by omega)]
    simp [encL]
  | succ d ih =>
    intro i k out hi hk ho
    obtain ⟨k, rfl⟩ : ∃ j, k = j + 1 := ⟨k - 1, by omega⟩
    have hn8 : n ≤ 8 := hn.le
    have hr := (hw.rd i (by omega)).2
    rw [zoneinforef17_Encode.l0, if_pos (by omega), if_pos (by omega)]
    refine bnd (rappend_f out n hn8 _ (u64_nonneg _).1 (u64_nonneg _).2 (by omega) k (by omega)) ?_
    rw [w64 (x := (rd_T38 l (i : Int)).f1) (by omega) (by omega)]
    refine bnd (rappend_f _ 4 (by omega) _ (u64_nonneg _).1 (u64_nonneg _).2 (by rw [List.length_append, enc_length]; omega) k (by omega)) ?_
    rw [w64 (by omega) (by omega), show (i : Int) + 1 = ((i + 1 : Nat) : Int) by omega, ih (i + 1) k _ (by omega) (by omega) (by rw [List.length_append, List.length_append, enc_length, enc_length]; omega),
      drop_rdS l i (by omega), encL_cons]
    simp [encR]
theorem rlenc_f (n : Nat) (hn : W48 n) (l : List S38) (hw : WfL l) (hl : l.length ≤ 100000) (k : Nat) (hk : l.length + 30 < k) : zoneinforef17_Encode.f k l n = some (encL n l) := by
  unfold zoneinforef17_Encode.f
  have := rlenc_loop n hn l hw (by omega) l.length 0 k [] (by omega) (by omega) (by simp; omega)
  simpa using this
def chunk (m : Nat) (b : List Int) (i : Nat) : List Int := (b.drop (i * m)).take m
theorem chunk_byt {m : Nat} {b : List Int} (hb : Byt b) (i : Nat) : Byt (chunk m b i) := (hb.drop _).take _
def decL (n m : Nat) (b : List Int) : List S38 := (List.range' 0 (b.length / m)).map (fun i => recB n (chunk m b i))
theorem decL_length (n m : Nat) (b : List Int) : (decL n m b).length = b.length / m := by simp [decL]
theorem recB_wf (n : Nat) (hn : W48 n) (c : List Int) : (-9223372036854775808 ≤ (recB n c).f0 ∧ (recB n c).f0 ≤ 9223372036854775807) ∧ (-2147483648 ≤ (recB n c).f1 ∧ (recB n c).f1 ≤ 2147483647) := ⟨sval_range n hn.wid _, sval4_range _⟩
theorem decL_wf (n m : Nat) (hn : W48 n) (b : List Int) : WfL (decL n m b) := fun x hx => by
  unfold decL at hx
  obtain ⟨i, -, rfl⟩ := List.mem_map.1 hx
  exact recB_wf n hn _
theorem fieldV_ok {l : List Int} {off n : Nat} (h : off + n ≤ l.length) : fieldV l off n = bv ((l.drop off).take n) := by
  unfold fieldV fieldOk
  rw [if_pos (decide_eq_true (by omega)), Int.toNat_natCast]
theorem recB_chunk (n m : Nat) (hm : m = n + 4) (b : List Int) (i P Q : Nat) (hP : P = i * m) (hQ : Q = P + n) (h : Q + 4 ≤ b.length) : recB n (chunk m b i) = ⟨sval n (fieldV b (P : Int) n), sval 4 (fieldV b (Q : Int) 4)⟩ := by
  rw [fieldV_ok (by omega), fieldV_ok (by omega)]
  unfold recB chunk
  rw [← hP, List.take_take, Nat.min_eq_left (by omega), List.drop_take, List.drop_drop, List.take_take, Nat.min_eq_left (by omega), ← hQ]
def W12 (n m : Nat) : Prop := (n = 4 ∧ m = 8) ∨ (n = 8 ∧ m = 12)
theorem W12.w {n m : Nat} (h : W12 n m) : W48 n := by unfold W12 at h; unfold W48; omega
theorem W12.m {n m : Nat} (h : W12 n m) : m = n + 4 := by unfold W12 at h; omega
theorem W12.pos {n m : Nat} (h : W12 n m) : 8 ≤ m ∧ m ≤ 12 := by unfold W12 at h; omega
theorem W12.wr {n m : Nat} (h : W12 n m) : wrap64 ((n : Int) + 4) = (m : Int) := by unfold W12 at h; unfold wrap64; omega
theorem size12 (a : Bool) : ∃ n m : Nat, W12 n m ∧ zoneinforef14_Size.f a = some (n : Int) := by
  cases a
  · exact ⟨4, 8, .inl ⟨rfl, rfl⟩, rfl⟩
  · exact ⟨8, 12, .inr ⟨rfl, rfl⟩, rfl⟩
theorem ldec_arith (n m : Nat) (hn : W12 n m) (B i d : Nat) (h : i + (d + 1) = B / m) (hB : B ≤ 1000000) : ∃ P Q R : Nat, P = i * m ∧ Q = P + n ∧ R = (i + 1) * m ∧ Q + 4 ≤ B ∧ wrap64 ((wrap64 ((P : Int) + n)) + 4) ≤ (B : Int) ∧ wrap64 ((P : Int) + n) = (Q : Int) ∧ wrap64 ((P : Int) + (m : Int)) = (R : Int) ∧
    ¬ ((m : Int) = 0) ∧ (i : Int) < wrap64 ((B : Int) / (m : Int)) ∧ wrap64 ((i : Int) * (m : Int)) = (P : Int) ∧ wrap64 ((i : Int) + 1) = ((i + 1 : Nat) : Int) := by
  refine ⟨i * m, i * m + n, (i + 1) * m, rfl, rfl, rfl, ?_⟩
  rcases hn with ⟨rfl, rfl⟩ | ⟨rfl, rfl⟩
  · refine ⟨by omega, by rw [w64 (x := _ + ((_ : Nat) : Int)) (by omega) (by omega), w64 (by omega) (by omega)]; omega, by unfold wrap64; omega, by unfold wrap64; omega, by omega, by unfold wrap64; omega, by unfold wrap64; omega, by unfold wrap64; omega⟩
  · refine ⟨by omega, by rw [w64 (x := _ + ((_ : Nat) : Int)) (by omega) (by omega), w64 (by omega) (by omega)]; omega, by unfold wrap64; omega, by unfold wrap64; omega, by omega, by unfold wrap64; omega, by unfold wrap64; omega, by unfold wrap64; omega⟩
theorem ldec_step (n m : Nat) (b : List Int) (out : List S38) (k P Q R : Nat) (v1 v2 : Int) (o1 o2 : Bool) (hwr : wrap64 ((n : Int) + 4) = (m : Int)) (c1 : wrap64 ((wrap64 ((P : Int) + n)) + 4) ≤ (b.length : Int)) (w1 : wrap64 ((P : Int) + n) = (Q : Int)) (w2 : wrap64 ((P : Int) + (m : Int)) = (R : Int))
    (h1 : bigendian_Int.f k b P n = some (v1, o1)) (h2 : bigendian_Int.f k b Q 4 = some (v2, o2)) (h4 : -2147483648 ≤ v2 ∧ v2 ≤ 2147483647) (ho : out.length < 8796093022208) :
    leaps_Decode.l0 (k + 1) b n out P = leaps_Decode.l0 k b n (out ++ [⟨v1, v2⟩]) R := by
  rw [leaps_Decode.l0, if_pos c1, w1, hwr, w2, h1, Option.bind_some, h2, Option.bind_some]
  dsimp only
  rw [if_pos ho, w32 h4.1 h4.2]
theorem ldec_loop (n m : Nat) (hn : W12 n m) (b : List Int) (hb : Byt b) (hl : b.length ≤ 1000000) : ∀ (d i k : Nat) (out : List S38), i + d = b.length / m → d + 20 < k → out.length + d ≤ 1000000000 →
    leaps_Decode.l0 k b n out ((i * m : Nat) : Int) = some (out ++ (List.range' i d).map (fun i => recB n (chunk m b i))) := by
  intro d
  induction d with
  | zero =>
    intro i k out hi hk ho
    obtain ⟨k, rfl⟩ : ∃ j, k = j + 1 := ⟨k - 1, by omega⟩
    rw [leaps_Decode.l0, if_neg (by rcases hn with ⟨rfl, rfl⟩ | ⟨rfl, rfl⟩ <;> (unfold wrap64; omega))]
    simp
  | succ d ih =>
    intro i k out hi hk ho
    obtain ⟨k, rfl⟩ : ∃ j, k = j + 1 := ⟨k - 1, by omega⟩
    have k10 : 10 < k := by omega
    have k20 : d + 20 < k := by omega
    have o1 : out.length < 8796093022208 := by omega
    have o2 : out.length + 1 + d ≤ 1000000000 := by omega
    have hi' : i + 1 + d = b.length / m := by omega
    have hl' : b.length ≤ 4611686018427387904 := by omega
    obtain ⟨P, Q, R, hP, hQ, hR, hle, c1, w1, w2, -, -, -, -⟩ := ldec_arith n m hn b.length i d hi hl
    have pr : (-9223372036854775808 : Int) ≤ (P : Int) ∧ (P : Int) ≤ 9223372036854775807 := by clear hP hR c1 w1 w2; omega
    have qr : (-9223372036854775808 : Int) ≤ (Q : Int) ∧ (Q : Int) ≤ 9223372036854775807 := by clear hP hR c1 w1 w2; omega
    have r1 := int_f b hb hl' (P : Int) pr n hn.w.wid k k10
    have r2 : bigendian_Int.f k b (Q : Int) 4 = some (sval 4 (fieldV b (Q : Int) 4), fieldOk b (Q : Int) 4) := int_f b hb hl' (Q : Int) qr 4 (.inr (.inl rfl)) k k10
    rw [← hP, ldec_step n m b out k P Q R _ _ _ _ hn.wr c1 w1 w2 r1 r2 (sval4_range _) o1, hR]
    rw [ih (i + 1) k _ hi' k20 (by rw [List.length_append]; exact o2)]
    rw [List.range'_succ, List.map_cons, List.append_assoc, recB_chunk n m hn.m b i P Q hP hQ hle]
    rfl
theorem ldec_f (n m : Nat) (hn : W12 n m) (b : List Int) (hb : Byt b) (hl : b.length ≤ 100000) (k : Nat) (hk : b.length + 30 < k) : leaps_Decode.f k b n = some (decL n m b) := by
  unfold leaps_Decode.f
  have := ldec_loop n m hn b hb (by omega) (b.length / m) 0 k [] (by omega) (by rcases hn with ⟨rfl, rfl⟩ | ⟨rfl, rfl⟩ <;> omega) (by rcases hn with ⟨rfl, rfl⟩ | ⟨rfl, rfl⟩ <;> simp <;> omega)
  simpa [decL] using this
theorem rldec_step (n m : Nat) (b : List Int) (out : List S38) (i k P Q : Nat) (v1 v2 : Int) (o1 o2 : Bool) (c0 : ¬ ((m : Int) = 0)) (c1 : (i : Int) < wrap64 ((b.length : Int) / (m : Int))) (w3 : wrap64 ((i : Int) * (m : Int)) = (P : Int)) (w1 : wrap64 ((P : Int) + n) = (Q : Int)) (w4 : wrap64 ((i : Int) + 1) = ((i + 1 : Nat) : Int))
    (h1 : zoneinforef01_Int.f k b P n = some (v1, o1)) (h2 : zoneinforef01_Int.f k b Q 4 = some (v2, o2)) (h4 : -2147483648 ≤ v2 ∧ v2 ≤ 2147483647) (ho : out.length < 8796093022208) :
    zoneinforef17_Decode.l0 (k + 1) b n out m i = zoneinforef17_Decode.l0 k b n (out ++ [⟨v1, v2⟩]) m ((i + 1 : Nat) : Int) := by
  rw [zoneinforef17_Decode.l0, if_neg c0, if_pos c1, w3, w1, w4, h1, Option.bind_some, h2, Option.bind_some]
  dsimp only
  rw [if_pos ho, w32 h4.1 h4.2]
theorem rldec_loop (n m : Nat) (hn : W12 n m) (b : List Int) (hb : Byt b) (hl : b.length ≤ 1000000) : ∀ (d i k : Nat) (out : List S38), i + d = b.length / m → d + 20 < k → out.length + d ≤ 1000000000 →
    zoneinforef17_Decode.l0 k b n out m i = some (out ++ (List.range' i d).map (fun i => recB n (chunk m b i))) := by
  intro d
  induction d with
  | zero =>
    intro i k out hi hk ho
    obtain ⟨k, rfl⟩ : ∃ j, k = j + 1 := ⟨k - 1, by omega⟩
    rw [zoneinforef17_Decode.l0, if_neg (by rcases hn with ⟨rfl, rfl⟩ | ⟨rfl, rfl⟩ <;> omega), if_neg (by rcases hn with ⟨rfl, rfl⟩ | ⟨rfl, rfl⟩ <;> (unfold wrap64; omega))]
    simp
  | succ d ih =>
    intro i k out hi hk ho
    obtain ⟨k, rfl⟩ : ∃ j, k = j + 1 := ⟨k - 1, by omega⟩
    have k10 : 10 < k := by omega
    have k20 : d + 20 < k := by omega
    have o1 : out.length < 8796093022208 := by omega
    have o2 : out.length + 1 + d ≤ 1000000000 := by omega
    have hi' : i + 1 + d = b.length / m := by omega
    have hl' : b.length ≤ 4611686018427387904 := by omega
    obtain ⟨P, Q, R, hP, hQ, hR, hle, -, w1, -, c0, c1, w3, w4⟩ := ldec_arith n m hn b.length i d hi hl
    have pr : (-9223372036854775808 : Int) ≤ (P : Int) ∧ (P : Int) ≤ 9223372036854775807 := by clear hP hR c0 c1 w1 w3 w4; omega
    have qr : (-9223372036854775808 : Int) ≤ (Q : Int) ∧ (Q : Int) ≤ 9223372036854775807 := by clear hP hR c0 c1 w1 w3 w4; omega
    have r1 := rint_f b hb hl' (P : Int) pr n hn.w.wid k k10
    have r2 : zoneinforef01_Int.f k b (Q : Int) 4 = some (sval 4 (fieldV b (Q : Int) 4), fieldOk b (Q : Int) 4) := rint_f b hb hl' (Q : Int) qr 4 (.inr (.inl rfl)) k k10
    rw [rldec_step n m b out i k P Q _ _ _ _ c0 c1 w3 w1 w4 r1 r2 (sval4_range _) o1]
    rw [ih (i + 1) k _ hi' k20 (by rw [List.length_append]; exact o2)]
    rw [List.range'_succ, List.map_cons, List.append_assoc, recB_chunk n m hn.m b i P Q hP hQ hle]
    rfl
theorem rldec_f (n m : Nat) (hn : W12 n m) (b : List Int) (hb : Byt b) (hl : b.length ≤ 100000) (k : Nat) (hk : b.length + 30 < k) : zoneinforef17_Decode.f k b n = some (decL n m b) := by
  unfold zoneinforef17_Decode.f
  rw [hn.wr]
  have := rldec_loop n m hn b hb (by omega) (b.length / m) 0 k [] (by omega) (by rcases hn with ⟨rfl, rfl⟩ | ⟨rfl, rfl⟩ <;> omega) (by rcases hn with ⟨rfl, rfl⟩ | ⟨rfl, rfl⟩ <;> simp <;> omega)
  simpa [decL] using this
theorem cut17 {n m : Nat} (hn : W12 n m) (B : Nat) (hl : B ≤ 100000) : wrap64 ((wrap64 ((B : Int) / (m : Int))) * (m : Int)) = ((B / m * m : Nat) : Int) := by
  rcases hn with ⟨rfl, rfl⟩ | ⟨rfl, rfl⟩ <;> (unfold wrap64; omega)
/-- What makes a record valid at its place. -/
def At (l : List S38) (i : Nat) : Int := (rd_T38 l (i : Int)).f0
def Co (l : List S38) (i : Nat) : Int := (rd_T38 l (i : Int)).f1
def VAL (l : List S38) (v : Int) (i : Nat) : Prop :=
  (i = 0 → 0 ≤ At l 0 ∧ (4 ≤ v ∨ Co l 0 = 1 ∨ Co l 0 = -1)) ∧
  (0 < i → At l (i - 1) ≤ At l i ∧ 2419199 ≤ wrap64 (At l i - At l (i - 1)) ∧ (Co l i - Co l (i - 1) = 1 ∨ Co l i - Co l (i - 1) = -1 ∨ (Co l i - Co l (i - 1) = 0 ∧ 4 ≤ v ∧ i + 1 = l.length)))
theorem step_f (l : List S38) (hw : WfL l) (hl : l.length ≤ 1000000) (i : Nat) (h0 : 0 < i) (hi : i < l.length) : leaps_step.f l (i : Int) = some (Co l i - Co l (i - 1)) := by
  have e : wrap64 ((i : Int) - 1) = ((i - 1 : Nat) : Int) := by unfold wrap64; omega
  have a := (hw.rd i hi).2
  have b := (hw.rd (i - 1) (by omega)).2
  unfold leaps_step.f Co
  rw [if_pos (by omega), if_pos (by omega), e, if_pos (by omega), if_pos (by omega)]
  congr 1
  unfold wrap64; omega
theorem valOk_iff (l : List S38) (hw : WfL l) (hl : l.length ≤ 1000000) (v : Int) (i : Nat) (hi : i < l.length) : valOk l v (i : Int) = true ↔ VAL l v i := by
  unfold valOk VAL
  rcases Nat.eq_zero_or_pos i with h0 | h0
  · subst h0
    have e1 : leaps_rules_1.f l ((0 : Nat) : Int) v = some (decide (At l 0 ≥ 0)) := by unfold leaps_rules_1.f; rw [if_pos (show ((0 : Nat) : Int) = 0 from rfl), if_pos (by omega)]; rfl
    have e3 : leaps_rules_3.f l ((0 : Nat) : Int) v = some true := by unfold leaps_rules_3.f; rw [if_pos (show ((0 : Nat) : Int) = 0 from rfl)]
    have e2 : (leaps_rules_2.f l ((0 : Nat) : Int) v = some true) ↔ (4 ≤ v ∨ Co l 0 = 1 ∨ Co l 0 = -1) := by
      unfold leaps_rules_2.f
      rw [if_neg (by omega)]
      by_cases h4 : v ≥ 4
      · rw [if_pos h4]; exact ⟨fun _ => .inl h4, fun _ => rfl⟩
      · rw [if_neg h4, if_pos (by omega)]
        by_cases hc : (rd_T38 l 0).f1 = 1
        · rw [if_pos hc]; exact ⟨fun _ => .inr (.inl hc), fun _ => rfl⟩
        · rw [if_neg hc]
          constructor
          · intro h; exact .inr (.inr (show (rd_T38 l 0).f1 = -1 by simpa using Option.some.inj h))
          · rintro (h | h | h)
            · exact absurd h h4
            · exact absurd h hc
            · congr 1; rw [beq_iff_eq]; exact h
    rw [e1, e3]
    simp only [Bool.and_eq_true, beq_iff_eq, e2, Option.some.injEq, decide_eq_true_eq, and_true, Nat.lt_irrefl, false_implies, true_implies]
    try exact ⟨fun h => ⟨h.1, h.2⟩, fun h => ⟨h.1, h.2⟩⟩
  · have e : wrap64 ((i : Int) - 1) = ((i - 1 : Nat) : Int) := by unfold wrap64; omega
    have e1 : (leaps_rules_1.f l (i : Int) v = some true) ↔ (At l (i - 1) ≤ At l i ∧ 2419199 ≤ wrap64 (At l i - At l (i - 1))) := by
      unfold leaps_rules_1.f
      rw [if_neg (by omega), if_pos (by omega), if_pos (by omega), e, if_pos (by omega), if_pos (by omega)]
      by_cases hc : (rd_T38 l (i : Int)).f0 ≥ (rd_T38 l ((i - 1 : Nat) : Int)).f0
      · rw [if_pos hc]
        constructor
        · intro h; exact ⟨hc, show 2419199 ≤ wrap64 ((rd_T38 l (i : Int)).f0 - (rd_T38 l ((i - 1 : Nat) : Int)).f0) by simpa using Option.some.inj h⟩
        · intro h; congr 1; rw [decide_eq_true_iff]; exact h.2
      · rw [if_neg hc]
        constructor
        · intro h; cases Option.some.inj h
        · intro h; exact absurd h.1 hc
    have e2 : leaps_rules_2.f l (i : Int) v = some true := by unfold leaps_rules_2.f; rw [if_pos (by omega)]
    have e3 : (leaps_rules_3.f l (i : Int) v = some true) ↔ (Co l i - Co l (i - 1) = 1 ∨ Co l i - Co l (i - 1) = -1 ∨ (Co l i - Co l (i - 1) = 0 ∧ 4 ≤ v ∧ i + 1 = l.length)) := by
      unfold leaps_rules_3.f
      rw [if_neg (by omega), step_f l hw hl i h0 hi, Option.bind_some]
      generalize Co l i - Co l (i - 1) = d
      by_cases d1 : d = 1
      · rw [if_pos d1]; exact ⟨fun _ => .inl d1, fun _ => rfl⟩
      · rw [if_neg d1]
        by_cases d2 : d = -1
        · rw [if_pos d2]; exact ⟨fun _ => .inr (.inl d2), fun _ => rfl⟩
        · rw [if_neg d2]
          by_cases d3 : d = 0
          · rw [if_pos d3]
            by_cases h4 : v ≥ 4
            · rw [if_pos h4]
              have el : wrap64 ((l.length : Int) - 1) = (l.length : Int) - 1 := by unfold wrap64; omega
              rw [el]
              constructor
              · intro h
                have := Option.some.inj h
                rw [beq_iff_eq] at this
                exact .inr (.inr ⟨d3, h4, by omega⟩)
              · rintro (h | h | ⟨_, _, h⟩)
                · exact absurd h d1
                · exact absurd h d2
                · congr 1; rw [beq_iff_eq]; omega
            · rw [if_neg h4]
              constructor
              · intro h; cases Option.some.inj h
              · rintro (h | h | ⟨_, h, _⟩)
                · exact absurd h d1
                · exact absurd h d2
                · exact absurd h h4
          · rw [if_neg d3]
            constructor
            · intro h; cases Option.some.inj h
            · rintro (h | h | ⟨h, _, _⟩)
              · exact absurd h d1
              · exact absurd h d2
              · exact absurd h d3
    simp only [Bool.and_eq_true, beq_iff_eq, e1, e2, e3, true_and]
    constructor
    · rintro ⟨⟨h1, h2⟩, h3⟩; exact ⟨fun h => by omega, fun _ => ⟨h1, h2, h3⟩⟩
    · rintro ⟨_, h⟩; exact ⟨⟨(h h0).1, (h h0).2.1⟩, (h h0).2.2⟩
def VB (l : List S38) (v : Int) : Bool := (List.range l.length).all fun i => valOk l v (i : Int)
theorem valid_f (l : List S38) (v : Int) : leaps_Valid.f l v = some (VB l v) := rfl
theorem VB_iff (l : List S38) (hw : WfL l) (hl : l.length ≤ 1000000) (v : Int) : VB l v = true ↔ ∀ i, i < l.length → VAL l v i := by
  unfold VB
  rw [List.all_eq_true]
  exact ⟨fun h i hi => (valOk_iff l hw hl v i hi).1 (h i (List.mem_range.2 hi)), fun h i hi => (valOk_iff l hw hl v i (List.mem_range.1 hi)).2 (h i (List.mem_range.1 hi))⟩
theorem rvalid_loop (l : List S38) (hw : WfL l) (hl : l.length ≤ 1000000) (v : Int) : ∀ (d i k : Nat), i + d = l.length → 2 * d < k →
    ∃ b, zoneinforef17_Valid.l0 k l v (i : Int) = some b ∧ (b = true ↔ ∀ j, i ≤ j → j < l.length → VAL l v j) := by
  intro d
  induction d with
  | zero =>
    intro i k hi hk
    obtain ⟨k, rfl⟩ : ∃ j, k = j + 1 := ⟨k - 1, by omega⟩
    refine ⟨true, ?_, ⟨fun _ j h1 h2 => by omega, fun _ => rfl⟩⟩
    rw [zoneinforef17_Valid.l0, if_neg (by omega)]
  | succ d ih =>
    intro i k hi hk
    obtain ⟨k, rfl⟩ : ∃ j, k = j + 1 := ⟨k - 1, by omega⟩
    have w1 : wrap64 ((i : Int) + 1) = ((i + 1 : Nat) : Int) := by unfold wrap64; omega
    have hco := (hw.rd i (by omega)).2
    have nxt : ∀ k, 2 * d < k → VAL l v i → ∃ b, zoneinforef17_Valid.l0 k l v ((i + 1 : Nat) : Int) = some b ∧ (b = true ↔ ∀ j, i ≤ j → j < l.length → VAL l v j) := by
      intro k hk hv
      obtain ⟨b, h1, h2⟩ := ih (i + 1) k (by omega) hk
      refine ⟨b, h1, h2.trans ⟨fun h j hj hj2 => ?_, fun h j hj hj2 => h j (by omega) hj2⟩⟩
      rcases Nat.lt_or_ge i j with h3 | h3
      · exact h j h3 hj2
      · obtain rfl : i = j := by omega
        exact hv
    have bad : ¬ VAL l v i → ∃ b, some false = some b ∧ (b = true ↔ ∀ j, i ≤ j → j < l.length → VAL l v j) := fun hn => ⟨false, rfl, ⟨fun h => (by cases h), fun h => absurd (h i (Nat.le_refl _) (by omega)) hn⟩⟩
    rw [zoneinforef17_Valid.l0, if_pos (by omega), if_pos (by omega), w1]
    rcases Nat.eq_zero_or_pos i with h0 | h0
    · subst h0
      rw [if_pos (show ((0 : Nat) : Int) = 0 from rfl), if_pos (by omega)]
      have ew : wrap64 ((rd_T38 l ((0 : Nat) : Int)).f1) = Co l 0 := w64 (by omega) (by omega)
      rw [ew]
      have ea : (rd_T38 l 0).f0 = At l 0 := rfl
      rw [ea]
      by_cases ha : At l 0 < 0
      · rw [if_pos ha]
        exact bad (fun h => by have := (h.1 rfl).1; omega)
      · rw [if_neg ha]
        by_cases h4 : v < 4
        · rw [if_pos h4]
          by_cases c1 : Co l 0 = 1
          · rw [if_pos c1]; exact nxt k (by omega) ⟨fun _ => ⟨by omega, .inr (.inl c1)⟩, fun h => by omega⟩
          · rw [if_neg c1]
            by_cases c2 : Co l 0 = -1
            · rw [if_pos c2]; exact nxt k (by omega) ⟨fun _ => ⟨by omega, .inr (.inr c2)⟩, fun h => by omega⟩
            · rw [if_neg c2]
              exact bad (fun h => by rcases (h.1 rfl).2 with h | h | h <;> omega)
        · rw [if_neg h4]; exact nxt k (by omega) ⟨fun _ => ⟨by omega, .inl (by omega)⟩, fun h => by omega⟩
    · have e : wrap64 ((i : Int) - 1) = ((i - 1 : Nat) : Int) := by unfold wrap64; omega
      have hco2 := (hw.rd (i - 1) (by omega)).2
      rw [if_neg (by omega), e, if_pos (by omega), if_pos (by omega)]
      have ed : wrap64 ((wrap64 ((rd_T38 l (i : Int)).f1)) - (wrap64 ((rd_T38 l ((i - 1 : Nat) : Int)).f1))) = Co l i - Co l (i - 1) := by unfold Co wrap64; omega
      have el : ((i : Int) == (wrap64 ((l.length : Int) - 1))) = decide (i + 1 = l.length) := by
        rw [show wrap64 ((l.length : Int) - 1) = (l.length : Int) - 1 by unfold wrap64; omega, Bool.eq_iff_iff, beq_iff_eq, decide_eq_true_iff]; omega
      rw [ed, el]
      have ea : (rd_T38 l (i : Int)).f0 = At l i := rfl
      have eb : (rd_T38 l ((i - 1 : Nat) : Int)).f0 = At l (i - 1) := rfl
      rw [ea, eb]
      obtain ⟨k, rfl⟩ : ∃ j, k = j + 1 := ⟨k - 1, by omega⟩
      by_cases ha : At l i < At l (i - 1)
      · rw [if_pos ha, zoneinforef17_Valid.j1, if_pos rfl]
        exact bad (fun h => by have := (h.2 h0).1; omega)
      · rw [if_neg ha]
        by_cases hg : wrap64 (At l i - At l (i - 1)) < 2419199
        · rw [decide_eq_true hg, zoneinforef17_Valid.j1, if_pos rfl]
          exact bad (fun h => by have := (h.2 h0).2.1; omega)
        · rw [decide_eq_false hg, zoneinforef17_Valid.j1, if_neg (by decide), w1]
          by_cases d1 : Co l i - Co l (i - 1) = 1
          · rw [if_pos d1]; exact nxt k (by omega) ⟨fun h => by omega, fun _ => ⟨by omega, by omega, .inl d1⟩⟩
          · rw [if_neg d1]
            by_cases d2 : Co l i - Co l (i - 1) = -1
            · rw [if_pos d2]; exact nxt k (by omega) ⟨fun h => by omega, fun _ => ⟨by omega, by omega, .inr (.inl d2)⟩⟩
            · rw [if_neg d2]
              by_cases d3 : Co l i - Co l (i - 1) = 0
              · rw [if_pos d3]
                by_cases h4 : v < 4
                · rw [if_pos h4]; exact bad (fun h => by rcases (h.2 h0).2.2 with h | h | h <;> omega)
                · rw [if_neg h4]
                  by_cases hlast : i + 1 = l.length
                  · rw [if_pos (decide_eq_true hlast)]; exact nxt k (by omega) ⟨fun h => by omega, fun _ => ⟨by omega, by omega, .inr (.inr ⟨d3, by omega, hlast⟩)⟩⟩
                  · rw [if_neg (by simpa using hlast)]; exact bad (fun h => by rcases (h.2 h0).2.2 with h | h | h <;> omega)
              · rw [if_neg d3]; exact bad (fun h => by rcases (h.2 h0).2.2 with h | h | h <;> omega)
theorem rvalid_f (l : List S38) (hw : WfL l) (hl : l.length ≤ 100000) (v : Int) (k : Nat) (hk : 2 * l.length + 10 < k) : zoneinforef17_Valid.f k l v = some (VB l v) := by
  unfold zoneinforef17_Valid.f
  obtain ⟨b, h1, h2⟩ := rvalid_loop l hw (by omega) v l.length 0 k (by omega) (by omega)
  rw [show (0 : Int) = ((0 : Nat) : Int) from rfl, h1]
  congr 1
  rw [Bool.eq_iff_iff, h2, VB_iff l hw (by omega)]
  exact ⟨fun h i hi => h i (Nat.zero_le _) hi, fun h i _ hi => h i hi⟩
theorem needs_f (l : List S38) : leaps_NeedsV4.f l = some (VB l 4 && !VB l 3) := by
  unfold leaps_NeedsV4.f
  rw [valid_f, valid_f, Option.bind_some, Option.bind_some]
  cases VB l 4 <;> simp
/-- The times of a valid list ascend. -/
theorem VB_asc (l : List S38) (hw : WfL l) (hl : l.length ≤ 1000000) (v : Int) (h : VB l v = true) (i : Nat) (h0 : 0 < i) (hi : i < l.length) : At l (i - 1) < At l i := by
  have := ((VB_iff l hw hl v).1 h i hi).2 h0
  rcases Int.lt_or_eq_of_le this.1 with h1 | h1
  · exact h1
  · have h2 := this.2.1
    rw [h1, Int.sub_self] at h2
    unfold wrap64 at h2
    omega
def Asc (l : List S38) : Prop := ∀ j i, j < i → i < l.length → At l j < At l i
theorem asc_of (l : List S38) (h : ∀ i, 0 < i → i < l.length → At l (i - 1) < At l i) : Asc l := by
  intro j i hji hi
  induction i with
  | zero => omega
  | succ i ih =>
    have h1 := h (i + 1) (by omega) hi
    rw [Nat.add_sub_cancel] at h1
    rcases Nat.lt_or_ge j i with h2 | h2
    · exact Int.lt_trans (ih h2 (by omega)) h1
    · obtain rfl : j = i := by omega
      exact h1
theorem VB_Asc (l : List S38) (hw : WfL l) (hl : l.length ≤ 1000000) (v : Int) (h : VB l v = true) : Asc l := asc_of l (VB_asc l hw hl v h)
theorem VB_nonneg (l : List S38) (hw : WfL l) (hl : l.length ≤ 1000000) (v : Int) (h : VB l v = true) (i : Nat) (hi : i < l.length) : 0 ≤ At l i := by
  have h0 := ((VB_iff l hw hl v).1 h 0 (by omega)).1 rfl
  rcases Nat.eq_zero_or_pos i with h1 | h1
  · subst h1; exact h0.1
  · have := VB_Asc l hw hl v h 0 i h1 hi
    omega
/-- How many records are not after a time. -/
def Pos (l : List S38) (t : Int) (p : Nat) : Prop := p ≤ l.length ∧ (∀ j, j < p → At l j ≤ t) ∧ (∀ j, p ≤ j → j < l.length → t < At l j)
theorem pos_ex (l : List S38) (h : Asc l) (t : Int) : ∃ p, Pos l t p := by
  have : ∀ n, n ≤ l.length → ∃ p, p ≤ n ∧ (∀ j, j < p → At l j ≤ t) ∧ (∀ j, p ≤ j → j < n → t < At l j) := by
    intro n
    induction n with
    | zero => intro _; exact ⟨0, Nat.le_refl _, fun j hj => by omega, fun j _ hj => by omega⟩
    | succ n ih =>
      intro hn
      obtain ⟨p, h1, h2, h3⟩ := ih (by omega)
      by_cases ht : At l n ≤ t
      · refine ⟨n + 1, Nat.le_refl _, fun j hj => ?_, fun j hj hj2 => by omega⟩
        rcases Nat.lt_or_ge j n with h4 | h4
        · have := h j n h4 (by omega); omega
        · obtain rfl : j = n := by omega
          exact ht
      · refine ⟨p, by omega, h2, fun j hj hj2 => ?_⟩
        rcases Nat.lt_or_ge j n with h4 | h4
        · exact h3 j hj h4
        · obtain rfl : j = n := by omega
          omega
  obtain ⟨p, h1, h2, h3⟩ := this l.length (Nat.le_refl _)
  exact ⟨p, h1, h2, h3⟩
def corr (l : List S38) (p : Nat) : Int := if p = 0 then 0 else Co l (p - 1)
theorem corr_loop (l : List S38) (hw : WfL l) (hl : l.length ≤ 1000000) (t : Int) (p : Nat) (hp : Pos l t p) : ∀ (d i k : Nat), i + d = l.length → d < k → i ≤ p →
    leaps_Correction.l0 k t (corr l i) l l.length i = some (corr l p) := by
  intro d
  induction d with
  | zero =>
    intro i k hi hk h
    obtain ⟨k, rfl⟩ : ∃ j, k = j + 1 := ⟨k - 1, by omega⟩
    have := hp.1
    obtain rfl : i = p := by omega
    rw [leaps_Correction.l0, if_neg (by omega)]
  | succ d ih =>
    intro i k hi hk h
    obtain ⟨k, rfl⟩ : ∃ j, k = j + 1 := ⟨k - 1, by omega⟩
    have hco := (hw.rd i (by omega)).2
    rw [leaps_Correction.l0, if_pos (by omega), if_pos (by omega), if_pos (by omega)]
    have ea : (rd_T38 l (i : Int)).f0 = At l i := rfl
    rw [ea]
    by_cases hip : i < p
    · have := hp.2.1 i hip
      rw [if_neg (by omega), w64 (x := (i : Int) + 1) (by omega) (by omega), show (i : Int) + 1 = ((i + 1 : Nat) : Int) by omega, show wrap64 ((rd_T38 l (i : Int)).f1) = corr l (i + 1) from ?_, ih (i + 1) k (by omega) (by omega) (by omega)]
      unfold corr
      rw [if_neg (by omega), Nat.add_sub_cancel]
      exact w64 (by omega) (by omega)
    · obtain rfl : i = p := by omega
      have := hp.2.2 i (Nat.le_refl _) (by omega)
      rw [if_pos (by omega)]
theorem corr_f (l : List S38) (hw : WfL l) (hl : l.length ≤ 100000) (t : Int) (p : Nat) (hp : Pos l t p) (k : Nat) (hk : l.length + 10 < k) : leaps_Correction.f k l t = some (corr l p) := by
  unfold leaps_Correction.f
  have := corr_loop l hw (by omega) t p hp l.length 0 k (by omega) (by omega) (by omega)
  exact this
theorem rcorr_loop (l : List S38) (hw : WfL l) (hl : l.length ≤ 1000000) (t : Int) (p : Nat) (hp : Pos l t p) : ∀ (i k : Nat), i ≤ l.length → i < k → p ≤ i →
    zoneinforef17_Correction.l0 k l t ((i : Int) - 1) = some (corr l p) := by
  intro i
  induction i with
  | zero =>
    intro k hi hk h
    obtain ⟨k, rfl⟩ : ∃ j, k = j + 1 := ⟨k - 1, by omega⟩
    obtain rfl : p = 0 := by omega
    rw [zoneinforef17_Correction.l0, if_neg (by omega)]
    rfl
  | succ i ih =>
    intro k hi hk h
    obtain ⟨k, rfl⟩ : ∃ j, k = j + 1 := ⟨k - 1, by omega⟩
    have hco := (hw.rd i (by omega)).2
    rw [show ((i + 1 : Nat) : Int) - 1 = (i : Int) by omega, zoneinforef17_Correction.l0, if_pos (by omega), if_pos (by omega), if_pos (by omega)]
    have ea : (rd_T38 l (i : Int)).f0 = At l i := rfl
    rw [ea]
    by_cases hip : i < p
    · obtain rfl : p = i + 1 := by omega
      have := hp.2.1 i hip
      rw [if_pos this, w64 (by omega) (by omega)]
      unfold corr
      rw [if_neg (by omega), Nat.add_sub_cancel]
      rfl
    · have := hp.2.2 i (by omega) (by omega)
      rw [if_neg (by omega), w64 (by omega) (by omega), ih k (by omega) (by omega) (by omega)]
theorem rcorr_f (l : List S38) (hw : WfL l) (hl : l.length ≤ 100000) (t : Int) (p : Nat) (hp : Pos l t p) (k : Nat) (hk : l.length + 10 < k) : zoneinforef17_Correction.f k l t = some (corr l p) := by
  unfold zoneinforef17_Correction.f
  rw [w64 (by omega) (by omega)]
  exact rcorr_loop l hw (by omega) t p hp l.length k (Nat.le_refl _) (by omega) hp.1
/-- The expiration. -/
def expB (l : List S38) : Int × Bool := if l.length < 2 then (0, false) else if Co l (l.length - 1) = Co l (l.length - 2) then (At l (l.length - 1), true) else (0, false)
theorem exp_f (l : List S38) (hw : WfL l) (hl : l.length ≤ 1000000) : leaps_Expiry.f l = some (expB l) := by
  unfold leaps_Expiry.f expB
  by_cases h2 : l.length < 2
  · rw [if_pos (by omega), if_pos h2]
  · rw [if_neg (by omega), if_neg h2]
    have e : wrap64 ((l.length : Int) - 1) = ((l.length - 1 : Nat) : Int) := by unfold wrap64; omega
    rw [e]
    refine bnd (step_f l hw hl (l.length - 1) (by omega) (by omega)) ?_
    rw [show l.length - 1 - 1 = l.length - 2 by omega]
    by_cases hc : Co l (l.length - 1) = Co l (l.length - 2)
    · rw [if_pos (by omega), if_pos hc, if_pos (by omega), if_pos (by omega)]; rfl
    · rw [if_neg (by omega), if_neg hc]
theorem rexp_f (l : List S38) (hl : l.length ≤ 1000000) : zoneinforef17_Expiry.f l = some (expB l) := by
  unfold zoneinforef17_Expiry.f expB
  by_cases h2 : l.length < 2
  · rw [if_neg (by omega), if_pos h2]
  · rw [if_pos (by omega), if_neg h2]
    have e : wrap64 ((l.length : Int) - 1) = ((l.length - 1 : Nat) : Int) := by unfold wrap64; omega
    have e2 : wrap64 ((l.length : Int) - 2) = ((l.length - 2 : Nat) : Int) := by unfold wrap64; omega
    rw [e, e2, if_pos (by omega), if_pos (by omega), if_pos (by omega), if_pos (by omega)]
    by_cases hc : Co l (l.length - 1) = Co l (l.length - 2)
    · rw [if_pos hc, if_pos (show (rd_T38 l ((l.length - 1 : Nat) : Int)).f1 = (rd_T38 l ((l.length - 2 : Nat) : Int)).f1 from hc)]; rfl
    · rw [if_neg hc, if_neg (show ¬ (rd_T38 l ((l.length - 1 : Nat) : Int)).f1 = (rd_T38 l ((l.length - 2 : Nat) : Int)).f1 from hc)]
theorem awake17 (k : Nat) (hk : 60 ≤ k) : zoneinfolaw17_awake.f k = some true :=
  at_rounds (fun k => zoneinfolaw17_awake.mono k) hk (by decide +kernel)
end Go.Proofs.YtiaobffdggeofaaDoor.Pure
