/- The total of concatenated lists is the sum of their totals; zero counts and surplus elements of the longer list have no effect: the plain law behind the walk. No condition. -/
import Derived.Test.YtljompndopfflaaWWords
import Derived.Test.YtljompndopfflaaWMore
import Derived.Test.YtljompndopfflaaOwn
import Derived.Test.YtljompndopfflaaGx13
import Derived.Test.YtljompndopfflaaGx5
import Derived.Test.YtljompndopfflaaBase
import Derived.Test.YtljompndopfflaaSiz
import Derived.Test.YtljompndopfflaaL03
set_option linter.unusedVariables false
namespace Go.Proofs.Ytljompndopfflaa.Pure
open Go.RowKit Go.Proofs.Ytljompndopfflaa.G Go.Proofs.YtljompndopfflaaW.PrintWords Go.Proofs.YtljompndopfflaaW.PrintLast Go.Proofs.YtljompndopfflaaW.PrintMore

theorem take_snoc_rd (l : List Int) (i : Nat) (h : i < l.length) : l.take (i + 1) = l.take i ++ [rd l (i : Int)] := by
  rw [rd_nat l i h, List.take_succ_eq_append_getElem h]
theorem dot_append (l m l' m' : List Int) (h : l.length = m.length) : dot (l ++ l') (m ++ m') = dot l m + dot l' m' := by
  induction l generalizing m with
  | nil =>
    obtain rfl : m = [] := List.eq_nil_of_length_eq_zero (by simpa using h.symm)
    simp [dot]
  | cons a l ih =>
    cases m with
    | nil => simp at h
    | cons b m =>
      show a * b + dot (l ++ l') (m ++ m') = a * b + dot l m + dot l' m'
      rw [ih m (by simpa using h)]; omega
theorem dot_le (l m : List Int) (hl : ∀ x ∈ l, 0 ≤ x ∧ x < 65536) (hm : ∀ x ∈ m, 0 ≤ x ∧ x < 256) : 0 ≤ dot l m ∧ dot l m ≤ l.length * 16777216 := by
  induction l generalizing m with
  | nil => simp [dot]
  | cons a l ih =>
    cases m with
    | nil => simp [dot]; omega
    | cons b m =>
      have ha := hl a List.mem_cons_self
      have hb := hm b List.mem_cons_self
      have h1 : 0 ≤ a * b := Int.mul_nonneg ha.1 hb.1
      have h2 : a * b ≤ 65535 * b := Int.mul_le_mul_of_nonneg_right (by omega) hb.1
      have h3 := ih m (fun x hx => hl x (List.mem_cons_of_mem _ hx)) (fun x hx => hm x (List.mem_cons_of_mem _ hx))
      show 0 ≤ a * b + dot l m ∧ a * b + dot l m ≤ ((l.length + 1 : Nat) : Int) * 16777216
      omega
theorem splits_loop0 (a b W S : List Int) (ha : ∀ x ∈ a, 0 ≤ x ∧ x < 65536) (hW : ∀ x ∈ W, 0 ≤ x ∧ x < 256) (hal : a.length ≤ 50) (hW2 : a.length ≤ W.length) (K0 : Nat)
    (hQ : ∀ K, K0 ≤ K → zoneinfolaw03_SizesTotalSplits.l1 K a b W S a [] (W.take a.length) [] 0 = some true) : ∀ (d i k : Nat), i + d = a.length → K0 + d < k →
    zoneinfolaw03_SizesTotalSplits.l0 k a b W S (a.take i) (W.take i) i = some true := by
  intro d
  induction d with
  | zero =>
    intro i k hi hk
    obtain ⟨k, rfl⟩ : ∃ m, k = m + 1 := ⟨k - 1, by omega⟩
    simp only [zoneinfolaw03_SizesTotalSplits.l0]
    rw [if_neg (by omega), List.take_of_length_le (show a.length ≤ i by omega), show i = a.length by omega]
    exact hQ k (by omega)
  | succ d ih =>
    intro i k hi hk
    obtain ⟨k, rfl⟩ : ∃ m, k = m + 1 := ⟨k - 1, by omega⟩
    have h1 := ha _ (List.getElem_mem (show i < a.length by omega))
    have h2 := hW _ (List.getElem_mem (show i < W.length by omega))
    rw [← rd_nat a i (by omega)] at h1
    rw [← rd_nat W i (by omega)] at h2
    simp only [zoneinfolaw03_SizesTotalSplits.l0]
    rw [if_pos (by omega), if_pos (by omega), if_pos (by rw [List.length_take]; omega), if_pos (by omega), if_pos (by rw [List.length_take]; omega), w64 (by omega) (by omega), u64w (x := rd a i) (by omega) (by omega), u64w (x := rd W i) (by omega) (by omega),
      ← take_snoc_rd a i (by omega), ← take_snoc_rd W i (by omega), show (i : Int) + 1 = ((i + 1 : Nat) : Int) by omega]
    exact ih (i + 1) k (by omega) (by omega)
theorem splits_end (a b w1 w2 S : List Int) (ha : ∀ x ∈ a, 0 ≤ x ∧ x < 65536) (hb : ∀ x ∈ b, 0 ≤ x ∧ x < 65536) (h1 : ∀ x ∈ w1, 0 ≤ x ∧ x < 256) (h2 : ∀ x ∈ w2, 0 ≤ x ∧ x < 256) (hS : AllU S) (hal : a.length ≤ 50) (hbl : b.length ≤ 50) (e1 : w1.length = a.length) (e2 : w2.length = b.length) (hSl : S.length ≤ 50) (k : Nat) (hk : 2000 ≤ k) :
    ((sizes_Total.f (k + 1 + 1 + 1 + 1) a w1 18446744073709551615).bind fun bt192 => ((sizes_Total.f (k + 1 + 1 + 1 + 1) b w2 18446744073709551615).bind fun bt194 => (zoneinfolaw03_SizesTotalSplits.j3 (k + 1 + 1 + 1 + 1) S a b w1 w2 bt192.1 bt192.2 bt194.1 bt194.2))) = some true := by
  have L : U 18446744073709551615 := ⟨by omega, by omega⟩
  have Ua : AllU a := fun x hx => by have := ha x hx; exact ⟨by omega, by omega⟩
  have Ub : AllU b := fun x hx => by have := hb x hx; exact ⟨by omega, by omega⟩
  have U1 : AllU w1 := fun x hx => by have := h1 x hx; exact ⟨by omega, by omega⟩
  have U2 : AllU w2 := fun x hx => by have := h2 x hx; exact ⟨by omega, by omega⟩
  have app : ∀ {l m : List Int}, AllU l → AllU m → AllU (l ++ m) := fun hl hm x hx => (List.mem_append.1 hx).elim (hl x) (hm x)
  have d1 := dot_le a w1 ha h1
  have d2 := dot_le b w2 hb h2
  refine bnd (total_f a w1 Ua U1 _ L (by omega) _ (by omega)) ?_
  refine bnd (total_f b w2 Ub U2 _ L (by omega) _ (by omega)) ?_
  rw [capS_pos (by omega), capS_pos (by omega)]
  dsimp only
  simp only [zoneinfolaw03_SizesTotalSplits.j3]
  refine bnd rfl ?_
  rw [if_pos (by simp; omega)]
  refine bnd rfl ?_
  rw [if_pos (by simp; omega)]
  refine bnd rfl ?_
  rw [if_pos (by simp; omega)]
  refine bnd rfl ?_
  rw [if_pos (by simp; omega), List.nil_append, List.nil_append]
  refine bnd (total_f _ _ (app Ua Ub) (app U1 U2) _ L (by simp; omega) _ (by omega)) ?_
  rw [dot_append a w1 b w2 e1.symm, capS_pos (by omega)]
  dsimp only
  simp only [zoneinfolaw03_SizesTotalSplits.j4]
  refine bnd rfl ?_
  rw [if_pos (by simp; omega)]
  refine bnd rfl ?_
  rw [if_pos (by simp; omega)]
  refine bnd rfl ?_
  rw [if_pos (by simp; omega)]
  refine bnd rfl ?_
  rw [if_pos (by simp; omega), List.nil_append, List.nil_append]
  refine bnd (total_f _ _ (app Ua (fun x hx => by rw [List.mem_singleton.1 hx]; exact ⟨by omega, by omega⟩)) (app U1 (fun x hx => by rw [List.mem_singleton.1 hx]; exact ⟨by omega, by omega⟩)) _ L (by simp; omega) _ (by omega)) ?_
  rw [dot_append a w1 [0] [9] e1.symm, show dot [0] [9] = 0 by simp [dot], Int.add_zero, capS_pos (by omega)]
  dsimp only
  simp only [zoneinfolaw03_SizesTotalSplits.j5]
  refine bnd rfl ?_
  rw [if_pos (by simp; omega)]
  refine bnd rfl ?_
  rw [if_pos (by simp; omega), List.nil_append]
  have e3 := dot_append a w1 [] S e1.symm
  rw [List.append_nil, dot_nil_left, Int.add_zero] at e3
  refine bnd (total_f _ _ Ua (app U1 hS) _ L (by omega) _ (by omega)) ?_
  rw [e3, capS_pos (by omega)]
  dsimp only
  simp only [zoneinfolaw03_SizesTotalSplits.j6]
  rw [if_pos trivial, if_pos trivial, if_pos trivial, if_pos trivial, if_pos trivial, u64w (by omega) (by omega), if_pos rfl, if_pos trivial]
  simp
theorem splits_loop1 (a b W S : List Int) (ha : ∀ x ∈ a, 0 ≤ x ∧ x < 65536) (hb : ∀ x ∈ b, 0 ≤ x ∧ x < 65536) (hW : ∀ x ∈ W, 0 ≤ x ∧ x < 256) (hS : AllU S) (hal : a.length ≤ 50) (hbl : b.length ≤ 50) (hW2 : a.length + b.length ≤ W.length) (hWl : W.length ≤ 200) (hSl : S.length ≤ 50) : ∀ (d i k : Nat), i + d = b.length → 3000 + d < k →
    zoneinfolaw03_SizesTotalSplits.l1 k a b W S a (b.take i) (W.take a.length) ((W.drop a.length).take i) i = some true := by
  intro d
  induction d with
  | zero =>
    intro i k hi hk
    obtain ⟨k, rfl⟩ : ∃ m, k = m + 1 + 1 + 1 + 1 + 1 := ⟨k - 5, by omega⟩
    simp only [zoneinfolaw03_SizesTotalSplits.l1]
    rw [if_neg (by omega), List.take_of_length_le (show b.length ≤ i by omega)]
    exact splits_end a b _ _ S ha hb (fun x hx => hW x (List.mem_of_mem_take hx)) (fun x hx => hW x (List.mem_of_mem_drop (List.mem_of_mem_take hx))) hS hal hbl (by rw [List.length_take]; omega) (by rw [List.length_take, List.length_drop]; omega) hSl k (by omega)
  | succ d ih =>
    intro i k hi hk
    obtain ⟨k, rfl⟩ : ∃ m, k = m + 1 := ⟨k - 1, by omega⟩
    have h1 := hb _ (List.getElem_mem (show i < b.length by omega))
    have h2 := hW _ (List.getElem_mem (show a.length + i < W.length by omega))
    rw [← rd_nat b i (by omega)] at h1
    rw [← rd_nat W (a.length + i) (by omega)] at h2
    have ei : wrap64 ((a.length : Int) + i) = ((a.length + i : Nat) : Int) := by rw [w64 (by omega) (by omega)]; omega
    have er := rd_drop W a.length (i : Int) (by omega)
    rw [show (a.length : Int) + (i : Int) = ((a.length + i : Nat) : Int) by omega] at er
    simp only [zoneinfolaw03_SizesTotalSplits.l1]
    rw [ei, if_pos (by omega), if_pos (by omega), if_pos (by rw [List.length_take]; omega), if_pos (by omega), if_pos (by omega), if_pos (by rw [List.length_take]; omega), w64 (by omega) (by omega), u64w (x := rd b i) (by omega) (by omega), u64w (x := rd W _) (by omega) (by omega),
      ← take_snoc_rd b i (by omega), ← er, ← take_snoc_rd (W.drop a.length) i (by rw [List.length_drop]; omega), show (i : Int) + 1 = ((i + 1 : Nat) : Int) by omega]
    exact ih (i + 1) k (by omega) (by omega)
theorem SizesTotalSplits : zoneinfolaw03_SizesTotalSplits.Pure := by
  intro a b W S _ _ ha _ _ hb _ _ hW _ _ hS
  have wa : ∀ x ∈ a, 0 ≤ x ∧ x < 65536 := fun x hx => wf_u16 (ha x hx)
  have wb : ∀ x ∈ b, 0 ≤ x ∧ x < 65536 := fun x hx => wf_u16 (hb x hx)
  have wW : ∀ x ∈ W, 0 ≤ x ∧ x < 256 := fun x hx => wf_u8 (hW x hx)
  refine ⟨5000 + 1, ?_⟩
  unfold zoneinfolaw03_SizesTotalSplits.f
  have aw := awake03 5000 (by omega)
  have out : zoneinfolaw03_SizesTotalSplits.j0 (5000 + 1) a b W S true = some true := by
    simp only [zoneinfolaw03_SizesTotalSplits.j0, if_true]
    exact bnd aw rfl
  refine bnd (awake03 _ (by omega)) ?_
  rw [if_pos rfl]
  by_cases h1 : (a.length : Int) > 50
  · rw [if_pos h1]; exact out
  rw [if_neg h1]
  by_cases h2 : (b.length : Int) > 50
  · rw [if_pos h2]; exact out
  rw [if_neg h2, w64 (by omega) (by omega)]
  by_cases h3 : (W.length : Int) < (a.length : Int) + b.length
  · rw [if_pos h3]; exact out
  rw [if_neg h3]
  by_cases h4 : (W.length : Int) > 200
  · rw [if_pos h4]; exact out
  rw [if_neg h4]
  by_cases h5 : (S.length : Int) > 50
  · rw [decide_eq_true h5]; exact out
  rw [decide_eq_false h5]
  simp only [zoneinfolaw03_SizesTotalSplits.j0]
  rw [if_neg (by decide)]
  exact splits_loop0 a b W S wa wW (by omega) (by omega) 3100 (fun K hK => splits_loop1 a b W S wa wb wW (AllU.of hS) (by omega) (by omega) (by omega) (by omega) (by omega) b.length 0 K (by omega) (by omega)) a.length 0 5000 (by omega) (by omega)
end Go.Proofs.Ytljompndopfflaa.Pure
