/- Names: what Plain and Build answer, in plain lists. -/
import Derived.Test.YtchlggnbgabddaaWWords
import Derived.Test.YtchlggnbgabddaaWMore
import Derived.Test.YtchlggnbgabddaaOwn
import Derived.Test.YtchlggnbgabddaaGx17
import Derived.Test.YtchlggnbgabddaaGx23
import Derived.Test.YtchlggnbgabddaaBase
import Derived.Test.YtchlggnbgabddaaBig
import Derived.Test.YtchlggnbgabddaaDes
set_option linter.unusedVariables false
set_option linter.unusedSimpArgs false
namespace Go.Proofs.Ytchlggnbgabddaa.Pure
open Go.RowKit Go.Proofs.Ytchlggnbgabddaa.G Go.Proofs.YtchlggnbgabddaaW.PrintWords Go.Proofs.YtchlggnbgabddaaW.PrintLast Go.Proofs.YtchlggnbgabddaaW.PrintMore

def nameOk (x : ByteArray) : Bool := decide (x.size ≤ 300) && (bytesOf x).all alw
theorem drop_rdOf (l : List ByteArray) (i : Nat) (h : i < l.length) : l.drop i = rdOf ByteArray.empty l (i : Int) :: l.drop (i + 1) := by
  rw [List.drop_eq_getElem_cons h]
  congr 1
  unfold rdOf
  rw [Int.toNat_natCast, List.getD_eq_getElem?_getD, List.getElem?_eq_getElem h]
  rfl
theorem plain_l1 (l : List ByteArray) (hl : l.length ≤ 9223372036854775807) (i : Nat) (hi : i < l.length) (X : ByteArray) (hX : rdOf ByteArray.empty l (i : Int) = X) (hs : X.size ≤ 300) (G : Nat) (R : Bool) (hn : ∀ k, G ≤ k → zoneinforef12_Plain.l0 k l ((i + 1 : Nat) : Int) = some R) :
    ∀ (d j k : Nat), j + d = X.size → d + G < k → zoneinforef12_Plain.l1 k l (i : Int) (j : Int) = some (((bytesOf X).drop j).all alw && R) := by
  have hlen := bytesOf_length X
  intro d
  induction d with
  | zero =>
    intro j k hj hk
    obtain ⟨k, rfl⟩ : ∃ m, k = m + 1 := ⟨k - 1, by omega⟩
    simp only [zoneinforef12_Plain.l1]
    rw [if_pos (by omega), if_pos (by omega), hX, if_neg (by omega), w64 (by omega) (by omega), show (i : Int) + 1 = ((i + 1 : Nat) : Int) by omega, hn k (by omega)]
    rw [List.drop_eq_nil_of_le (by omega)]
    simp
  | succ d ih =>
    intro j k hj hk
    obtain ⟨k, rfl⟩ : ∃ m, k = m + 1 := ⟨k - 1, by omega⟩
    simp only [zoneinforef12_Plain.l1]
    rw [if_pos (by omega), if_pos (by omega), hX, if_pos (by omega), if_pos (by omega)]
    refine bnd (rallowed_f _) ?_
    rw [drop_rd (bytesOf X) j (by omega), List.all_cons, rd_bytesOf]
    cases alw (bt X (j : Int)) with
    | false => rw [if_neg (by decide)]; rfl
    | true => rw [if_pos rfl, w64 (by omega) (by omega), show (j : Int) + 1 = ((j + 1 : Nat) : Int) by omega, ih (j + 1) k (by omega) (by omega), Bool.true_and]
theorem plain_l0 (l : List ByteArray) (hl : l.length ≤ 9223372036854775807) : ∀ (d i : Nat), i + d = l.length → ∀ k, d * 305 + 1 ≤ k → zoneinforef12_Plain.l0 k l (i : Int) = some ((l.drop i).all nameOk && decide ((l.length : Int) ≤ 60)) := by
  intro d
  induction d with
  | zero =>
    intro i hi k hk
    obtain ⟨k, rfl⟩ : ∃ m, k = m + 1 := ⟨k - 1, by omega⟩
    simp only [zoneinforef12_Plain.l0]
    rw [if_neg (by omega), List.drop_eq_nil_of_le (by omega)]
    simp
  | succ d ih =>
    intro i hi k hk
    obtain ⟨k, rfl⟩ : ∃ m, k = m + 1 := ⟨k - 1, by omega⟩
    simp only [zoneinforef12_Plain.l0]
    rw [if_pos (by omega), if_pos (by omega), drop_rdOf l i (by omega), List.all_cons]
    by_cases hs : (rdOf ByteArray.empty l (i : Int)).size ≤ 300
    · rw [if_neg (by omega)]
      have h := plain_l1 l hl i (by omega) _ rfl hs (d * 305 + 1) _ (fun k hk => ih (i + 1) (by omega) k hk) (rdOf ByteArray.empty l (i : Int)).size 0 k (by omega) (by omega)
      rw [show ((0 : Nat) : Int) = 0 from rfl, List.drop_zero] at h
      rw [h]
      unfold nameOk
      rw [decide_eq_true hs, Bool.true_and, Bool.and_assoc]
    · rw [if_pos (by omega)]
      unfold nameOk
      rw [decide_eq_false hs]
      rfl
def plainOk (l : List ByteArray) : Bool := l.all nameOk && decide ((l.length : Int) ≤ 60)
theorem plain_f (l : List ByteArray) (hl : l.length ≤ 9223372036854775807) (k : Nat) (hk : l.length * 305 + 1 ≤ k) : zoneinforef12_Plain.f k l = some (plainOk l) := by
  have h := plain_l0 l hl l.length 0 (by omega) k hk
  rw [List.drop_zero] at h
  exact h
theorem plain_size {l : List ByteArray} (h : plainOk l = true) : l.length ≤ 60 ∧ ∀ x ∈ l, x.size ≤ 300 := by
  unfold plainOk at h
  rw [Bool.and_eq_true, decide_eq_true_iff, List.all_eq_true] at h
  refine ⟨by omega, fun x hx => ?_⟩
  have := h.1 x hx
  unfold nameOk at this
  rw [Bool.and_eq_true, decide_eq_true_iff] at this
  exact this.1
theorem rdOf_mem (l : List ByteArray) (n : Nat) (h : n < l.length) : rdOf ByteArray.empty l (n : Int) ∈ l := by
  unfold rdOf
  rw [Int.toNat_natCast, List.getD_eq_getElem?_getD, List.getElem?_eq_getElem h]
  exact List.getElem_mem h
theorem rdOf_left (a b : List ByteArray) (n : Nat) (h : n < a.length) : rdOf ByteArray.empty (a ++ b) (n : Int) = rdOf ByteArray.empty a (n : Int) := by
  unfold rdOf
  rw [Int.toNat_natCast, List.getD_eq_getElem?_getD, List.getD_eq_getElem?_getD, List.getElem?_append_left h]
/-- One step of Build, where there is room. -/
theorem bst1_ok (T : List Int) (M : List (List UInt8 × Int)) (I : List Int) (x : ByteArray) (hx : x.size ≤ 300) (hT : T.length ≤ 1000000) (hI : I.length ≤ 1000000) : ∃ s v M', bst1 (T, M, I) x = some (T ++ s, M', I ++ [v]) ∧ s.length ≤ 301 ∧ (M = [] → 1 ≤ s.length) := by
  unfold bst1
  rw [if_pos ⟨by omega, by simp only; omega, by simp only; omega⟩]
  dsimp only
  cases hm : metAt M x.data.toList with
  | some v =>
    refine ⟨[], v, M, by rw [List.append_nil], by simp, fun h => ?_⟩
    rw [h] at hm
    cases hm
  | none => exact ⟨bytesOf x ++ [0], _, _, by rw [List.append_assoc], by rw [List.length_append, bytesOf_length]; simp; omega, fun _ => by simp⟩
theorem bfirst_ok (l : List ByteArray) (h : ∀ x ∈ l, x.size ≤ 300) (hl : l.length ≤ 120) : ∀ n, n ≤ l.length → ∃ T M I, bfirst l n = some (T, M, I) ∧ T.length ≤ 301 * n ∧ I.length = n := by
  intro n
  induction n with
  | zero => intro _; exact ⟨[], [], [], rfl, by simp, rfl⟩
  | succ n ih =>
    intro hn
    obtain ⟨T, M, I, e, hT, hI⟩ := ih (by omega)
    obtain ⟨s, v, M', hs, h1, _⟩ := bst1_ok T M I _ (h _ (rdOf_mem l n (by omega))) (by omega) (by omega)
    refine ⟨T ++ s, M', I ++ [v], ?_, by rw [List.length_append]; omega, by simp; omega⟩
    rw [bfirst, e, Option.bind_some, hs]
theorem bfirst_left (a b : List ByteArray) : ∀ n, n ≤ a.length → bfirst (a ++ b) n = bfirst a n := by
  intro n
  induction n with
  | zero => intro _; rfl
  | succ n ih =>
    intro hn
    rw [bfirst, bfirst, ih (by omega), rdOf_left a b n (by omega)]
theorem bfirst_grow (l : List ByteArray) (h : ∀ x ∈ l, x.size ≤ 300) (hl : l.length ≤ 120) (n : Nat) {T M I} (e : bfirst l n = some (T, M, I)) : ∀ d, n + d ≤ l.length → ∃ s u M', bfirst l (n + d) = some (T ++ s, M', I ++ u) := by
  intro d
  induction d with
  | zero => intro _; exact ⟨[], [], M, by rw [Nat.add_zero, e, List.append_nil, List.append_nil]⟩
  | succ d ih =>
    intro hn
    obtain ⟨s, u, M', e'⟩ := ih (by omega)
    obtain ⟨T2, M2, I2, e2, hT, hI⟩ := bfirst_ok l h hl (n + d) (by omega)
    have hq := e'.symm.trans e2
    simp only [Option.some.injEq, Prod.mk.injEq] at hq
    obtain ⟨q1, q2, q3⟩ := hq
    obtain ⟨s', v, M3, hs, _, _⟩ := bst1_ok (T ++ s) M' (I ++ u) _ (h _ (rdOf_mem l (n + d) (by omega))) (by rw [q1]; omega) (by rw [q3]; omega)
    refine ⟨s ++ s', u ++ [v], M3, ?_⟩
    rw [show n + (d + 1) = n + d + 1 by omega, bfirst, e', Option.bind_some, hs, List.append_assoc, List.append_assoc]
theorem bfirst_pos (l : List ByteArray) (h : ∀ x ∈ l, x.size ≤ 300) (hl : l.length ≤ 120) (h0 : 1 ≤ l.length) {T M I} (e : bfirst l l.length = some (T, M, I)) : 1 ≤ T.length := by
  obtain ⟨s, v, M', hs, _, h1⟩ := bst1_ok [] [] [] _ (h _ (rdOf_mem l 0 (by omega))) (by simp) (by simp)
  have e1 : bfirst l 1 = some ([] ++ s, M', [] ++ [v]) := by
    rw [bfirst, bfirst, Option.bind_some]
    exact hs
  obtain ⟨s2, u, M2, e2⟩ := bfirst_grow l h hl 1 e1 (l.length - 1) (by omega)
  rw [show 1 + (l.length - 1) = l.length by omega, e] at e2
  simp only [Option.some.injEq, Prod.mk.injEq] at e2
  rw [e2.1, List.nil_append, List.length_append]
  have := h1 rfl
  omega
theorem build_f (l : List ByteArray) {T M I} (e : bfirst l l.length = some (T, M, I)) : desigs_Build.f l = some (if T.length = 0 then [0] else T, I) := by
  unfold desigs_Build.f
  rw [e, Option.bind_some]
end Go.Proofs.Ytchlggnbgabddaa.Pure
