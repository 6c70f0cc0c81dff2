/- When the reference's check of a block answers 0, clause by clause. -/
import Derived.Test.YtfomlahadnihhaaWWords
import Derived.Test.YtfomlahadnihhaaWMore
import Derived.Test.YtfomlahadnihhaaOwn
import Derived.Test.YtfomlahadnihhaaGx10
import Derived.Test.YtfomlahadnihhaaGx11
import Derived.Test.YtfomlahadnihhaaGx12
import Derived.Test.YtfomlahadnihhaaGx13
import Derived.Test.YtfomlahadnihhaaGx14
import Derived.Test.YtfomlahadnihhaaGx7
import Derived.Test.YtfomlahadnihhaaGx9
import Derived.Test.YtfomlahadnihhaaBase
import Derived.Test.YtfomlahadnihhaaOpn
set_option linter.unusedVariables false
set_option linter.unusedSimpArgs false
namespace Go.Proofs.Ytfomlahadnihhaa.Pure
open Go.RowKit Go.Proofs.Ytfomlahadnihhaa.G Go.Proofs.YtfomlahadnihhaaW.PrintWords Go.Proofs.YtfomlahadnihhaaW.PrintLast Go.Proofs.YtfomlahadnihhaaW.PrintMore

def Tot {α : Type} (o : Option α) (P : α → Prop) : Prop := ∃ v, o = some v ∧ P v
theorem Tot.some {α : Type} {v : α} {P : α → Prop} (h : P v) : Tot (some v) P := ⟨v, rfl, h⟩
theorem Tot.ite {α : Type} {c : Prop} [Decidable c] {a b : Option α} {P : α → Prop} (h : c → Tot a P) (g : ¬ c → Tot b P) : Tot (if c then a else b) P := by
  by_cases hc : c
  · rw [if_pos hc]; exact h hc
  · rw [if_neg hc]; exact g hc
theorem Tot.bind {α β : Type} {a : Option α} {f : α → Option β} {P : α → Prop} {Q : β → Prop} (h : Tot a P) (g : ∀ v, P v → Tot (f v) Q) : Tot (a.bind f) Q := by
  obtain ⟨v, e, hp⟩ := h
  obtain ⟨u, e2, hq⟩ := g v hp
  exact ⟨u, bnd e e2, hq⟩
theorem Tot.mono {α : Type} {o : Option α} {P Q : α → Prop} (h : Tot o P) (g : ∀ v, P v → Q v) : Tot o Q := by
  obtain ⟨v, e, hp⟩ := h
  exact ⟨v, e, g v hp⟩
def Asc (l : List Int) : Prop := ∀ j : Nat, j + 1 < l.length → rd l (j : Int) < rd l ((j + 1 : Nat) : Int)
theorem rd38_nat (l : List S38) (i : Nat) (h : i < l.length) : rd_T38 l (i : Int) = l[i] := by
  unfold rd_T38; simp [List.getD_eq_getElem?_getD, List.getElem?_eq_getElem h]
theorem rd42_nat (l : List S42) (i : Nat) (h : i < l.length) : rd_T42 l (i : Int) = l[i] := by
  unfold rd_T42; simp [List.getD_eq_getElem?_getD, List.getElem?_eq_getElem h]
def WfT (l : List S38) : Prop := ∀ x ∈ l, (-2147483648 ≤ x.f0 ∧ x.f0 ≤ 2147483647) ∧ 0 ≤ x.f2 ∧ x.f2 < 256
theorem WfT.of {l : List S38} (h : ∀ x ∈ l, Opn.Wf38 x) : WfT l := fun x hx => ⟨wf_i32 (h x hx).1, wf_u8 (h x hx).2⟩
theorem WfT.rd {l : List S38} (h : WfT l) (i : Nat) (hi : i < l.length) : (-2147483648 ≤ (rd_T38 l (i : Int)).f0 ∧ (rd_T38 l (i : Int)).f0 ≤ 2147483647) ∧ 0 ≤ (rd_T38 l (i : Int)).f2 ∧ (rd_T38 l (i : Int)).f2 < 256 := by
  rw [rd38_nat l i hi]; exact h _ (List.getElem_mem hi)
def WfS (l : List S42) : Prop := ∀ x ∈ l, (-9223372036854775808 ≤ x.f0 ∧ x.f0 ≤ 9223372036854775807) ∧ (-2147483648 ≤ x.f1 ∧ x.f1 ≤ 2147483647)
theorem WfS.of {l : List S42} (h : ∀ x ∈ l, Opn.Wf42 x) : WfS l := fun x hx => ⟨wf_i64 (h x hx).1, wf_i32 (h x hx).2⟩
theorem WfS.rd {l : List S42} (h : WfS l) (i : Nat) (hi : i < l.length) : (-9223372036854775808 ≤ (rd_T42 l (i : Int)).f0 ∧ (rd_T42 l (i : Int)).f0 ≤ 9223372036854775807) ∧ (-2147483648 ≤ (rd_T42 l (i : Int)).f1 ∧ (rd_T42 l (i : Int)).f1 ≤ 2147483647) := by
  rw [rd42_nat l i hi]; exact h _ (List.getElem_mem hi)
def I64s (zs : List Int) : Prop := ∀ x ∈ zs, -9223372036854775808 ≤ x ∧ x ≤ 9223372036854775807
theorem I64s.of {l : List Int} (h : ∀ x ∈ l, (Lit.int .i64 x).wf = true) : I64s l := fun x hx => wf_i64 (h x hx)
theorem I64s.rd {zs : List Int} (h : I64s zs) (i : Nat) (hi : i < zs.length) : -9223372036854775808 ≤ rd zs (i : Int) ∧ rd zs (i : Int) ≤ 9223372036854775807 := by
  rw [rd_nat zs i hi]; exact h _ (List.getElem_mem hi)
/-! sizes -/
def fitB (s v : Int) : Bool := if s = 8 then true else decide (-2147483648 ≤ v ∧ v < 2147483648)
theorem half4 (k : Nat) (hk : 10 < k) : zoneinforef01_half.f k 4 = some 2147483648 := by
  obtain ⟨k, rfl⟩ : ∃ m, k = m + 9 := ⟨k - 9, by omega⟩
  unfold zoneinforef01_half.f
  simp [zoneinforef01_half.l0, wrap64, u64_def]
theorem fits_f (s v : Int) (hs : s = 4 ∨ s = 8) (k : Nat) (hk : 10 < k) : zoneinforef01_Fits.f k v s = some (fitB s v) := by
  unfold zoneinforef01_Fits.f fitB
  rcases hs with rfl | rfl
  · rw [if_neg (by decide), if_neg (by decide)]
    refine bnd (half4 k hk) ?_
    rw [w64 (x := 2147483648) (by omega) (by omega), w64 (x := -2147483648) (by omega) (by omega)]
    by_cases h : v ≥ -2147483648
    · rw [if_pos h]
      congr 1
      rw [Bool.eq_iff_iff, decide_eq_true_iff, decide_eq_true_iff]
      omega
    · rw [if_neg h]
      congr 1
      symm
      exact decide_eq_false (by omega)
  · rw [if_pos rfl, if_pos rfl]
theorem next (i : Nat) (h : i ≤ 1000000) : wrap64 ((i : Int) + 1) = ((i + 1 : Nat) : Int) := by rw [w64 (by omega) (by omega)]; omega
/-- A clause over the places from i on. -/
theorem all_step {P : Nat → Prop} {i n : Nat} (h : i < n) : (∀ j, i ≤ j → j < n → P j) ↔ P i ∧ ∀ j, i + 1 ≤ j → j < n → P j := by
  constructor
  · exact fun g => ⟨g i (Nat.le_refl i) h, fun j h1 h2 => g j (by omega) h2⟩
  · rintro ⟨g1, g2⟩ j h1 h2
    rcases Nat.eq_or_lt_of_le h1 with e | e
    · subst e; exact g1
    · exact g2 j e h2
theorem all_end {P : Nat → Prop} {i n : Nat} (h : n ≤ i) : ∀ j, i ≤ j → j < n → P j := fun j h1 h2 => by omega
theorem fit_l (zs : List Int) (s : Int) (hs : s = 4 ∨ s = 8) (hl : zs.length ≤ 1000) : ∀ (d i k : Nat), i + d = zs.length → d + 20 < k → Tot (zoneinforef15_Fit.l0 k zs s i) (fun v => v = true ↔ ∀ j : Nat, i ≤ j → j < zs.length → fitB s (rd zs (j : Int)) = true) := by
  intro d
  induction d with
  | zero =>
    intro i k hi hk
    obtain ⟨k, rfl⟩ : ∃ j, k = j + 1 := ⟨k - 1, by omega⟩
    rw [zoneinforef15_Fit.l0, if_neg (by omega)]
    exact Tot.some ⟨fun _ => all_end (by omega), fun _ => rfl⟩
  | succ d ih =>
    intro i k hi hk
    obtain ⟨k, rfl⟩ : ∃ j, k = j + 1 := ⟨k - 1, by omega⟩
    rw [zoneinforef15_Fit.l0, if_pos (by omega), if_pos (by omega), fits_f s _ hs k (by omega), Option.bind_some, next i (by omega)]
    refine Tot.ite (fun h => (ih (i + 1) k (by omega) (by omega)).mono fun v hv => ?_) (fun h => Tot.some ?_)
    · rw [hv, all_step (i := i) (by omega)]; exact ⟨fun g => ⟨h, g⟩, fun g => g.2⟩
    · rw [all_step (i := i) (by omega)]; exact ⟨fun g => absurd g (by decide), fun g => absurd g.1 h⟩
theorem desc_l (zs : List Int) (hl : zs.length ≤ 1000) : ∀ (d i k : Nat), i + d = zs.length → d < k → 1 ≤ i → Tot (zoneinforef15_Descent.l0 k zs i) (fun v => v = -1 ↔ ∀ j : Nat, i ≤ j → j < zs.length → rd zs ((j - 1 : Nat) : Int) < rd zs (j : Int)) := by
  intro d
  induction d with
  | zero =>
    intro i k hi hk h1
    obtain ⟨k, rfl⟩ : ∃ j, k = j + 1 := ⟨k - 1, by omega⟩
    rw [zoneinforef15_Descent.l0, if_neg (by omega)]
    exact Tot.some ⟨fun _ => all_end (by omega), fun _ => rfl⟩
  | succ d ih =>
    intro i k hi hk h1
    obtain ⟨k, rfl⟩ : ∃ j, k = j + 1 := ⟨k - 1, by omega⟩
    have w1 : wrap64 ((i : Int) - 1) = ((i - 1 : Nat) : Int) := by rw [w64 (by omega) (by omega)]; omega
    rw [zoneinforef15_Descent.l0, if_pos (by omega), w1, if_pos (by omega), if_pos (by omega), if_pos (by omega), next i (by omega)]
    refine Tot.ite (fun h => Tot.some ?_) (fun h => (ih (i + 1) k (by omega) (by omega) (by omega)).mono fun v hv => ?_)
    · rw [all_step (i := i) (by omega)]; exact ⟨fun g => by omega, fun g => by have := g.1; omega⟩
    · rw [hv, all_step (i := i) (by omega)]; exact ⟨fun g => ⟨by omega, g⟩, fun g => g.2⟩
theorem desc_f (zs : List Int) (hl : zs.length ≤ 1000) (k : Nat) (hk : zs.length + 1 < k) : Tot (zoneinforef15_Descent.f k zs) (fun v => v = -1 ↔ Asc zs) := by
  unfold zoneinforef15_Descent.f
  have fin : ∀ v : Int, (v = -1 ↔ ∀ j : Nat, 1 ≤ j → j < zs.length → rd zs ((j - 1 : Nat) : Int) < rd zs (j : Int)) → (v = -1 ↔ Asc zs) := fun v hv => by
    rw [hv]
    exact ⟨fun g j hj => by have := g (j + 1) (by omega) hj; rwa [Nat.add_sub_cancel] at this, fun g j h1 h2 => by have := g (j - 1) (by omega); rwa [show j - 1 + 1 = j by omega] at this⟩
  rcases Nat.eq_zero_or_pos zs.length with h0 | h0
  · obtain ⟨k, rfl⟩ : ∃ j, k = j + 1 := ⟨k - 1, by omega⟩
    rw [zoneinforef15_Descent.l0, if_neg (by omega)]
    exact Tot.some (fin _ ⟨fun _ j h1 h2 => by omega, fun _ => rfl⟩)
  · exact (desc_l zs hl (zs.length - 1) 1 k (by omega) (by omega) (by omega)).mono fin
theorem check1 (l : List S38) (hw : WfT l) (hl : l.length ≤ 1000) (n : Nat) : ∀ (d i k : Nat), i + d = l.length → d < k → Tot (zoneinforef16_Check.l1 k l (n : Int) i) (fun v => v = 0 ↔ ∀ j : Nat, i ≤ j → j < l.length → (rd_T38 l (j : Int)).f2 < n) := by
  intro d
  induction d with
  | zero =>
    intro i k hi hk
    obtain ⟨k, rfl⟩ : ∃ j, k = j + 1 := ⟨k - 1, by omega⟩
    rw [zoneinforef16_Check.l1, if_neg (by omega)]
    exact Tot.some ⟨fun _ => all_end (by omega), fun _ => rfl⟩
  | succ d ih =>
    intro i k hi hk
    obtain ⟨k, rfl⟩ : ∃ j, k = j + 1 := ⟨k - 1, by omega⟩
    have hb := hw.rd i (by omega)
    rw [zoneinforef16_Check.l1, if_pos (by omega), if_pos (by omega), w64 (x := (rd_T38 l (i : Int)).f2) (by omega) (by omega), next i (by omega)]
    refine Tot.ite (fun h => Tot.some ?_) (fun h => (ih (i + 1) k (by omega) (by omega)).mono fun v hv => ?_)
    · rw [all_step (i := i) (by omega)]; exact ⟨fun g => by omega, fun g => by have := g.1; omega⟩
    · rw [hv, all_step (i := i) (by omega)]; exact ⟨fun g => ⟨by omega, g⟩, fun g => g.2⟩
theorem check0 (l : List S38) (hw : WfT l) (hl : l.length ≤ 1000) (n : Nat) : ∀ (d i k : Nat), i + d = l.length → d + l.length + 1 < k → Tot (zoneinforef16_Check.l0 k l (n : Int) i) (fun v => v = 0 ↔ (∀ j : Nat, i ≤ j → j < l.length → (rd_T38 l (j : Int)).f0 ≠ -2147483648) ∧ ∀ j : Nat, j < l.length → (rd_T38 l (j : Int)).f2 < n) := by
  intro d
  induction d with
  | zero =>
    intro i k hi hk
    obtain ⟨k, rfl⟩ : ∃ j, k = j + 1 := ⟨k - 1, by omega⟩
    rw [zoneinforef16_Check.l0, if_neg (by omega)]
    exact (check1 l hw hl n l.length 0 k (by omega) (by omega)).mono fun v hv => hv.trans ⟨fun g => ⟨all_end (by omega), fun j hj => g j (by omega) hj⟩, fun g j _ hj => g.2 j hj⟩
  | succ d ih =>
    intro i k hi hk
    obtain ⟨k, rfl⟩ : ∃ j, k = j + 1 := ⟨k - 1, by omega⟩
    rw [zoneinforef16_Check.l0, if_pos (by omega), if_pos (by omega), next i (by omega)]
    refine Tot.ite (fun h => Tot.some ?_) (fun h => (ih (i + 1) k (by omega) (by omega)).mono fun v hv => ?_)
    · rw [all_step (i := i) (by omega)]; exact ⟨fun g => by omega, fun g => absurd h g.1.1⟩
    · rw [hv, all_step (i := i) (by omega)]; exact ⟨fun g => ⟨⟨h, g.1⟩, g.2⟩, fun g => ⟨g.1.2, g.2⟩⟩
theorem tot_allowed (c : Int) : Tot (zoneinforef12_Allowed.f c) (fun _ => True) := by
  unfold zoneinforef12_Allowed.f
  repeat' first | exact Tot.some trivial | refine Tot.ite (fun _ => ?_) (fun _ => ?_)
theorem tot_bad (l : List Int) (hl : l.length ≤ 1000) : ∀ (d i k : Nat), i + d = l.length → d < k → Tot (zoneinforef12_Bad.l0 k l i) (fun _ => True) := by
  intro d
  induction d with
  | zero =>
    intro i k hi hk
    obtain ⟨k, rfl⟩ : ∃ j, k = j + 1 := ⟨k - 1, by omega⟩
    rw [zoneinforef12_Bad.l0, if_neg (by omega)]
    refine Tot.ite (fun h => ?_) (fun _ => Tot.some trivial)
    rw [w64 (x := (l.length : Int) - 1) (by omega) (by omega), if_pos (by omega), if_pos (by omega)]
    exact Tot.ite (fun _ => Tot.some trivial) (fun _ => Tot.some trivial)
  | succ d ih =>
    intro i k hi hk
    obtain ⟨k, rfl⟩ : ∃ j, k = j + 1 := ⟨k - 1, by omega⟩
    rw [zoneinforef12_Bad.l0, if_pos (by omega), if_pos (by omega), next i (by omega)]
    refine Tot.ite (fun _ => ih (i + 1) k (by omega) (by omega)) fun _ => (tot_allowed _).bind fun v _ => Tot.ite (fun _ => ih (i + 1) k (by omega) (by omega)) fun _ => Tot.some trivial
/-- Whether a table of designations is valid: the function's own answer. -/
def v12 (l : List Int) : Bool := (zoneinforef12_Valid.f 1010 l).getD false
theorem v12_f (l : List Int) (hl : l.length ≤ 1000) (k : Nat) (hk : 1010 ≤ k) : zoneinforef12_Valid.f k l = some (v12 l) := by
  have h : Tot (zoneinforef12_Valid.f 1010 l) (fun _ => True) := Tot.bind (tot_bad l hl l.length 0 1010 (by omega) (by omega)) fun v _ => Tot.some trivial
  obtain ⟨v, e, _⟩ := h
  have e2 : v12 l = v := by unfold v12; rw [e]; rfl
  rw [e2]
  exact at_rounds (fun k => zoneinforef12_Valid.mono l k) hk e
/-- The i-th leap second record beside the one ahead of it. -/
def lpOk (l : List S42) (ver : Int) (i : Nat) : Prop :=
  if i = 0 then 0 ≤ (rd_T42 l 0).f0 ∧ (ver < 4 → (rd_T42 l 0).f1 = 1 ∨ (rd_T42 l 0).f1 = -1)
  else (rd_T42 l ((i - 1 : Nat) : Int)).f0 ≤ (rd_T42 l (i : Int)).f0 ∧ ¬ wrap64 ((rd_T42 l (i : Int)).f0 - (rd_T42 l ((i - 1 : Nat) : Int)).f0) < 2419199 ∧
    ((rd_T42 l (i : Int)).f1 - (rd_T42 l ((i - 1 : Nat) : Int)).f1 = 1 ∨ (rd_T42 l (i : Int)).f1 - (rd_T42 l ((i - 1 : Nat) : Int)).f1 = -1 ∨ ((rd_T42 l (i : Int)).f1 - (rd_T42 l ((i - 1 : Nat) : Int)).f1 = 0 ∧ 4 ≤ ver ∧ i + 1 = l.length))
theorem leaps_l (l : List S42) (hw : WfS l) (hl : l.length ≤ 1000) (ver : Int) : ∀ (d i k : Nat), i + d = l.length → 2 * d < k → Tot (zoneinforef17_Valid.l0 k l ver i) (fun v => v = true ↔ ∀ j : Nat, i ≤ j → j < l.length → lpOk l ver j) := by
  intro d
  induction d with
  | zero =>
    intro i k hi hk
    obtain ⟨k, rfl⟩ : ∃ j, k = j + 1 := ⟨k - 1, by omega⟩
    rw [zoneinforef17_Valid.l0, if_neg (by omega)]
    exact Tot.some ⟨fun _ => all_end (by omega), fun _ => rfl⟩
  | succ d ih =>
    intro i k hi hk
    obtain ⟨k, rfl⟩ : ∃ j, k = j + 1 + 1 := ⟨k - 2, by omega⟩
    have hb := hw.rd i (by omega)
    have bad : ¬ lpOk l ver i → Tot (some false) (fun v => v = true ↔ ∀ j : Nat, i ≤ j → j < l.length → lpOk l ver j) := fun h => Tot.some (by
      rw [all_step (i := i) (by omega)]; exact ⟨fun g => absurd g (by decide), fun g => absurd g.1 h⟩)
    have good : lpOk l ver i → ∀ q : Nat, 2 * d < q → Tot (zoneinforef17_Valid.l0 q l ver (wrap64 ((i : Int) + 1))) (fun v => v = true ↔ ∀ j : Nat, i ≤ j → j < l.length → lpOk l ver j) := fun h q hq => by
      rw [next i (by omega)]
      refine (ih (i + 1) q (by omega) hq).mono fun v hv => ?_
      rw [hv, all_step (i := i) (by omega)]; exact ⟨fun g => ⟨h, g⟩, fun g => g.2⟩
    rw [zoneinforef17_Valid.l0, if_pos (by omega), if_pos (by omega)]
    refine Tot.ite (fun h0 => ?_) (fun h0 => ?_)
    · obtain rfl : i = 0 := by omega
      rw [if_pos (by omega)]
      rw [show ((0 : Nat) : Int) = 0 from rfl] at hb ⊢
      have u : lpOk l ver 0 ↔ 0 ≤ (rd_T42 l 0).f0 ∧ (ver < 4 → (rd_T42 l 0).f1 = 1 ∨ (rd_T42 l 0).f1 = -1) := by unfold lpOk; rw [if_pos rfl]
      rw [w64 (x := (rd_T42 l 0).f1) (by omega) (by omega)]
      refine Tot.ite (fun h1 => bad (by rw [u]; omega)) (fun h1 => ?_)
      refine Tot.ite (fun h2 => ?_) (fun h2 => good (by rw [u]; omega) (k + 1) (by omega))
      refine Tot.ite (fun h3 => good (by rw [u]; omega) (k + 1) (by omega)) (fun h3 => ?_)
      exact Tot.ite (fun h4 => good (by rw [u]; omega) (k + 1) (by omega)) (fun h4 => bad (by rw [u]; omega))
    · have w1 : wrap64 ((i : Int) - 1) = ((i - 1 : Nat) : Int) := by rw [w64 (by omega) (by omega)]; omega
      have w2 : wrap64 ((l.length : Int) - 1) = ((l.length - 1 : Nat) : Int) := by rw [w64 (by omega) (by omega)]; omega
      have hb2 := hw.rd (i - 1) (by omega)
      have u : lpOk l ver i ↔ (rd_T42 l ((i - 1 : Nat) : Int)).f0 ≤ (rd_T42 l (i : Int)).f0 ∧ ¬ wrap64 ((rd_T42 l (i : Int)).f0 - (rd_T42 l ((i - 1 : Nat) : Int)).f0) < 2419199 ∧
          ((rd_T42 l (i : Int)).f1 - (rd_T42 l ((i - 1 : Nat) : Int)).f1 = 1 ∨ (rd_T42 l (i : Int)).f1 - (rd_T42 l ((i - 1 : Nat) : Int)).f1 = -1 ∨ ((rd_T42 l (i : Int)).f1 - (rd_T42 l ((i - 1 : Nat) : Int)).f1 = 0 ∧ 4 ≤ ver ∧ i + 1 = l.length)) := by
        unfold lpOk; rw [if_neg (show ¬ i = 0 by omega)]
      rw [w1, if_pos (by omega), if_pos (by omega), w2, w64 (x := (rd_T42 l (i : Int)).f1) (by omega) (by omega), w64 (x := (rd_T42 l ((i - 1 : Nat) : Int)).f1) (by omega) (by omega), w64 (x := (rd_T42 l (i : Int)).f1 - _) (by omega) (by omega)]
      generalize hA : rd_T42 l (i : Int) = A at *
      generalize hP : rd_T42 l ((i - 1 : Nat) : Int) = P at *
      have hlast : ((i : Int) == ((l.length - 1 : Nat) : Int)) = decide (i + 1 = l.length) := by rw [Bool.eq_iff_iff, beq_iff_eq, decide_eq_true_iff]; omega
      rw [hlast]
      have hj : ∀ g : Bool, (g = true ↔ A.f0 < P.f0 ∨ wrap64 (A.f0 - P.f0) < 2419199) → Tot (zoneinforef17_Valid.j1 (k + 1) l ver i (A.f1 - P.f1) (decide (i + 1 = l.length)) g) (fun v => v = true ↔ ∀ j : Nat, i ≤ j → j < l.length → lpOk l ver j) := fun g hg => by
        rw [zoneinforef17_Valid.j1]
        refine Tot.ite (fun h1 => bad (fun g_ => ?_)) (fun h1 => ?_)
        · have g_ := u.1 g_
          rcases hg.1 h1 with e | e
          · omega
          · exact g_.2.1 e
        have h1' : ¬ A.f0 < P.f0 ∧ ¬ wrap64 (A.f0 - P.f0) < 2419199 := ⟨fun e => h1 (hg.2 (.inl e)), fun e => h1 (hg.2 (.inr e))⟩
        refine Tot.ite (fun h2 => good (u.2 ⟨by omega, h1'.2, .inl h2⟩) k (by omega)) (fun h2 => ?_)
        refine Tot.ite (fun h3 => good (u.2 ⟨by omega, h1'.2, .inr (.inl h3)⟩) k (by omega)) (fun h3 => ?_)
        refine Tot.ite (fun h4 => ?_) (fun h4 => bad (fun g_ => by have g_ := u.1 g_; omega))
        refine Tot.ite (fun h5 => bad (fun g_ => by have g_ := u.1 g_; omega)) (fun h5 => ?_)
        exact Tot.ite (fun h6 => good (u.2 ⟨by omega, h1'.2, .inr (.inr ⟨h4, by omega, of_decide_eq_true h6⟩)⟩) k (by omega)) (fun h6 => bad (fun g_ => by
          have g_ := u.1 g_
          rcases g_.2.2 with e | e | e
          · exact h2 e
          · exact h3 e
          · exact h6 (decide_eq_true e.2.2)))
      refine Tot.ite (fun h1 => hj true ⟨fun _ => .inl h1, fun _ => rfl⟩) (fun h1 => hj _ ?_)
      rw [decide_eq_true_iff]
      exact ⟨fun e => .inr e, fun e => e.elim (fun e => absurd e h1) id⟩
theorem cons_l (a b : List Bool) (hl : b.length ≤ 1000) : ∀ (d i k : Nat), i + d = b.length → d < k → Tot (zoneinforef18_Consistent.l0 k a b i) (fun v => v = true ↔ ∀ j : Nat, i ≤ j → j < b.length → rdOf false b (j : Int) = true → j < a.length ∧ rdOf false a (j : Int) = true) := by
  intro d
  induction d with
  | zero =>
    intro i k hi hk
    obtain ⟨k, rfl⟩ : ∃ j, k = j + 1 := ⟨k - 1, by omega⟩
    rw [zoneinforef18_Consistent.l0, if_neg (by omega)]
    exact Tot.some ⟨fun _ => all_end (by omega), fun _ => rfl⟩
  | succ d ih =>
    intro i k hi hk
    obtain ⟨k, rfl⟩ : ∃ j, k = j + 1 := ⟨k - 1, by omega⟩
    have good : (rdOf false b (i : Int) = true → i < a.length ∧ rdOf false a (i : Int) = true) → Tot (zoneinforef18_Consistent.l0 k a b ((i + 1 : Nat) : Int)) (fun v => v = true ↔ ∀ j : Nat, i ≤ j → j < b.length → rdOf false b (j : Int) = true → j < a.length ∧ rdOf false a (j : Int) = true) := fun h => (ih (i + 1) k (by omega) (by omega)).mono fun v hv => by
      rw [hv, all_step (P := fun j => rdOf false b (j : Int) = true → j < a.length ∧ rdOf false a (j : Int) = true) (i := i) (by omega)]; exact ⟨fun g => ⟨h, g⟩, fun g => g.2⟩
    have bad : ¬ (rdOf false b (i : Int) = true → i < a.length ∧ rdOf false a (i : Int) = true) → Tot (some false) (fun v => v = true ↔ ∀ j : Nat, i ≤ j → j < b.length → rdOf false b (j : Int) = true → j < a.length ∧ rdOf false a (j : Int) = true) := fun h => Tot.some (by
      rw [all_step (P := fun j => rdOf false b (j : Int) = true → j < a.length ∧ rdOf false a (j : Int) = true) (i := i) (by omega)]; exact ⟨fun g => absurd g (by decide), fun g => absurd g.1 h⟩)
    rw [zoneinforef18_Consistent.l0, if_pos (by omega), next i (by omega)]
    refine Tot.ite (fun h1 => ?_) (fun h1 => ?_)
    · rw [if_pos (by omega)]
      refine Tot.ite (fun h2 => Tot.ite (fun h3 => good (fun _ => ⟨by omega, h3⟩)) (fun h3 => bad (fun g => h3 (g h2).2))) (fun h2 => good (fun g => absurd g h2))
    · rw [if_pos (by omega)]
      exact Tot.ite (fun h2 => bad (fun g => h1 (by have := (g h2).1; omega))) (fun h2 => good (fun g => absurd g h2))
/-- A block that the check lets through. -/
structure BOk (b : S28) (ver s : Int) : Prop where
  same : b.f1.length = b.f0.length
  some_ : 0 < b.f2.length
  chars : 0 < b.f3.length
  std : b.f5.length = 0 ∨ b.f5.length = b.f2.length
  ut : b.f6.length = 0 ∨ b.f6.length = b.f2.length
  fit : ∀ j : Nat, j < b.f0.length → fitB s (rd b.f0 (j : Int)) = true
  lfit : ∀ j : Nat, j < b.f4.length → fitB s (rd_T42 b.f4 (j : Int)).f0 = true
  asc : Asc b.f0
  index : ∀ j : Nat, j < b.f1.length → rd b.f1 (j : Int) < b.f2.length
  offs : ∀ j : Nat, j < b.f2.length → (rd_T38 b.f2 (j : Int)).f0 ≠ -2147483648
  desig : ∀ j : Nat, j < b.f2.length → (rd_T38 b.f2 (j : Int)).f2 < b.f3.length
  tab : v12 b.f3 = true
  lps : ∀ j : Nat, j < b.f4.length → lpOk b.f4 ver j
  ind : ∀ j : Nat, j < b.f6.length → rdOf false b.f6 (j : Int) = true → j < b.f5.length ∧ rdOf false b.f5 (j : Int) = true
/-- A small block. -/
structure Sm (b : S28) : Prop where
  l0 : b.f0.length ≤ 200
  l1 : b.f1.length ≤ 200
  l2 : b.f2.length ≤ 200
  l3 : b.f3.length ≤ 600
  l4 : b.f4.length ≤ 200
  l5 : b.f5.length ≤ 200
  l6 : b.f6.length ≤ 200
/-- Its data are of their kinds. -/
structure Wd (b : S28) : Prop where
  z : I64s b.f0
  i : Byt b.f1
  t : WfT b.f2
  s : WfS b.f4
theorem bndTot {α β : Type} {a : Option α} {x : α} {f : α → Option β} {P : β → Prop} (h : a = some x) (g : Tot (f x) P) : Tot (a.bind f) P := by subst h; exact g
variable {b : S28}
theorem block_l1 (hS : Sm b) (hW : Wd b) (ver : Int) : ∀ (d i k : Nat), i + d = b.f1.length → d + 1400 < k →
    Tot (zoneinforef20_Block.l1 k ver (b.f2.length : Int) i b.f0 b.f1 b.f2 b.f3 b.f4 b.f5 b.f6) (fun v => v = 0 ↔ (∀ j : Nat, i ≤ j → j < b.f1.length → rd b.f1 (j : Int) < b.f2.length) ∧ (∀ j : Nat, j < b.f2.length → (rd_T38 b.f2 (j : Int)).f0 ≠ -2147483648) ∧ (∀ j : Nat, j < b.f2.length → (rd_T38 b.f2 (j : Int)).f2 < b.f3.length) ∧ v12 b.f3 = true ∧ (∀ j : Nat, j < b.f4.length → lpOk b.f4 ver j) ∧ ∀ j : Nat, j < b.f6.length → rdOf false b.f6 (j : Int) = true → j < b.f5.length ∧ rdOf false b.f5 (j : Int) = true) := by
  have h0 := hS.l0
  have h1 := hS.l1
  have h2 := hS.l2
  have h3 := hS.l3
  have h4 := hS.l4
  have h5 := hS.l5
  have h6 := hS.l6
  intro d
  induction d with
  | zero =>
    intro i k hi hk
    obtain ⟨k, rfl⟩ : ∃ j, k = j + 1 := ⟨k - 1, by omega⟩
    rw [zoneinforef20_Block.l1, if_neg (by omega)]
    refine Tot.bind (check0 b.f2 hW.t (by omega) b.f3.length b.f2.length 0 k (by omega) (by omega)) fun v hv => Tot.ite (fun e0 => ?_) (fun e0 => Tot.some ⟨fun e => absurd e e0, fun g => hv.2 ⟨fun j _ hj => g.2.1 j hj, g.2.2.1⟩⟩)
    have c := hv.1 e0
    refine bndTot (v12_f b.f3 (by omega) k (by omega)) (Tot.ite (fun e1 => ?_) (fun e1 => Tot.some ⟨fun e => by omega, fun g => absurd g.2.2.2.1 e1⟩))
    refine Tot.bind (leaps_l b.f4 hW.s (by omega) ver b.f4.length 0 k (by omega) (by omega)) fun v2 hv2 => Tot.ite (fun e2 => ?_) (fun e2 => Tot.some ⟨fun e => by omega, fun g => absurd (hv2.2 (fun j _ hj => g.2.2.2.2.1 j hj)) e2⟩)
    refine Tot.bind (cons_l b.f5 b.f6 (by omega) b.f6.length 0 k (by omega) (by omega)) fun v3 hv3 => Tot.ite (fun e3 => Tot.some ⟨fun _ => ⟨all_end (by omega), fun j hj => c.1 j (by omega) hj, c.2, e1, fun j hj => hv2.1 e2 j (by omega) hj, fun j hj => hv3.1 e3 j (by omega) hj⟩, fun _ => rfl⟩) (fun e3 => Tot.some ⟨fun e => by omega, fun g => absurd (hv3.2 (fun j _ hj => g.2.2.2.2.2 j hj)) e3⟩)
  | succ d ih =>
    intro i k hi hk
    obtain ⟨k, rfl⟩ : ∃ j, k = j + 1 := ⟨k - 1, by omega⟩
    have hb := hW.i.rd (i : Int)
    rw [zoneinforef20_Block.l1, if_pos (by omega), if_pos (by omega), w64 (x := rd b.f1 (i : Int)) (by omega) (by omega), next i (by omega)]
    refine Tot.ite (fun h => Tot.some ?_) (fun h => (ih (i + 1) k (by omega) (by omega)).mono fun v hv => ?_)
    · exact ⟨fun g => by omega, fun g => by have := g.1 i (Nat.le_refl i) (by omega); omega⟩
    · rw [hv, all_step (i := i) (by omega)]; exact ⟨fun g => ⟨⟨by omega, g.1⟩, g.2⟩, fun g => ⟨g.1.2, g.2⟩⟩
theorem block_l0 (hS : Sm b) (hW : Wd b) (ver s : Int) (hs : s = 4 ∨ s = 8) (R : Prop) (hR : ∀ k : Nat, 2000 < k → Tot (zoneinforef20_Block.l1 k ver (b.f2.length : Int) ((0 : Nat) : Int) b.f0 b.f1 b.f2 b.f3 b.f4 b.f5 b.f6) (fun v => v = 0 ↔ R)) : ∀ (d i k : Nat), i + d = b.f4.length → d + 2100 < k →
    Tot (zoneinforef20_Block.l0 k ver s (b.f2.length : Int) i b.f0 b.f1 b.f2 b.f3 b.f4 b.f5 b.f6) (fun v => v = 0 ↔ (∀ j : Nat, i ≤ j → j < b.f4.length → fitB s (rd_T42 b.f4 (j : Int)).f0 = true) ∧ Asc b.f0 ∧ R) := by
  have h0 := hS.l0
  have h4 := hS.l4
  intro d
  induction d with
  | zero =>
    intro i k hi hk
    obtain ⟨k, rfl⟩ : ∃ j, k = j + 1 := ⟨k - 1, by omega⟩
    rw [zoneinforef20_Block.l0, if_neg (by omega)]
    refine Tot.bind (desc_f b.f0 (by omega) k (by omega)) fun v hv => Tot.ite (fun e0 => ?_) (fun e0 => Tot.some ⟨fun e => by omega, fun g => absurd (hv.2 g.2.1) e0⟩)
    exact (hR k (by omega)).mono fun u hu => hu.trans ⟨fun g => ⟨all_end (by omega), hv.1 e0, g⟩, fun g => g.2.2⟩
  | succ d ih =>
    intro i k hi hk
    obtain ⟨k, rfl⟩ : ∃ j, k = j + 1 := ⟨k - 1, by omega⟩
    rw [zoneinforef20_Block.l0, if_pos (by omega), if_pos (by omega), fits_f s _ hs k (by omega), Option.bind_some, next i (by omega)]
    refine Tot.ite (fun h => (ih (i + 1) k (by omega) (by omega)).mono fun v hv => ?_) (fun h => Tot.some ?_)
    · rw [hv, all_step (i := i) (by omega)]; exact ⟨fun g => ⟨⟨h, g.1⟩, g.2⟩, fun g => ⟨g.1.2, g.2⟩⟩
    · exact ⟨fun g => by omega, fun g => absurd (g.1 i (Nat.le_refl i) (by omega)) h⟩
theorem block_f (hS : Sm b) (hW : Wd b) (ver s : Int) (hs : s = 4 ∨ s = 8) (k : Nat) (hk : 3000 < k) :
    Tot (zoneinforef20_Block.f k b.f0 b.f1 b.f2 b.f3 b.f4 b.f5 b.f6 ver s) (fun v => v = 0 ↔ BOk b ver s) := by
  have h0 := hS.l0
  have h1 := hS.l1
  have h4 := hS.l4
  have bad : ¬ BOk b ver s → Tot (zoneinforef20_Block.j0 k ver s (b.f2.length : Int) true b.f0 b.f1 b.f2 b.f3 b.f4 b.f5 b.f6) (fun v => v = 0 ↔ BOk b ver s) := fun h => by
    obtain ⟨k, rfl⟩ : ∃ j, k = j + 1 := ⟨k - 1, by omega⟩
    rw [zoneinforef20_Block.j0, if_pos rfl]
    exact Tot.some ⟨fun e => by omega, fun g => absurd g h⟩
  have good : b.f1.length = b.f0.length → 0 < b.f2.length → 0 < b.f3.length → (b.f5.length = 0 ∨ b.f5.length = b.f2.length) → ∀ g : Bool, (g = false ↔ b.f6.length = 0 ∨ b.f6.length = b.f2.length) → Tot (zoneinforef20_Block.j0 k ver s (b.f2.length : Int) g b.f0 b.f1 b.f2 b.f3 b.f4 b.f5 b.f6) (fun v => v = 0 ↔ BOk b ver s) := fun e1 e2 e3 e4 g hg => by
    cases g with
    | true => exact bad (fun h => absurd (hg.2 h.ut) (by decide))
    | false =>
      have e5 := hg.1 rfl
      obtain ⟨k, rfl⟩ : ∃ j, k = j + 1 := ⟨k - 1, by omega⟩
      rw [zoneinforef20_Block.j0, if_neg (by decide)]
      refine Tot.bind (fit_l b.f0 s hs (by omega) b.f0.length 0 k (by omega) (by omega)) fun v hv => Tot.ite (fun e6 => ?_) (fun e6 => Tot.some ⟨fun e => by omega, fun g => absurd (hv.2 (fun j _ hj => g.fit j hj)) e6⟩)
      refine (block_l0 hS hW ver s hs _ (fun k hk => block_l1 hS hW ver b.f1.length 0 k (by omega) (by omega)) b.f4.length 0 k (by omega) (by omega)).mono fun u hu => hu.trans ?_
      exact ⟨fun g => ⟨e1, e2, e3, e4, e5, fun j hj => hv.1 e6 j (by omega) hj, fun j hj => g.1 j (by omega) hj, g.2.1, fun j hj => g.2.2.1 j (by omega) hj, g.2.2.2.1, g.2.2.2.2.1, g.2.2.2.2.2.1, g.2.2.2.2.2.2.1, g.2.2.2.2.2.2.2⟩,
        fun g => ⟨fun j _ hj => g.lfit j hj, g.asc, fun j _ hj => g.index j hj, g.offs, g.desig, g.tab, g.lps, g.ind⟩⟩
  unfold zoneinforef20_Block.f
  refine Tot.ite (fun e1 => ?_) (fun e1 => bad (fun h => e1 (by have := h.same; omega)))
  refine Tot.ite (fun e2 => bad (fun h => by have := h.some_; omega)) (fun e2 => ?_)
  refine Tot.ite (fun e3 => bad (fun h => by have := h.chars; omega)) (fun e3 => ?_)
  have g6 : ((b.f6.length : Int) != (b.f2.length : Int)) = false ↔ b.f6.length = b.f2.length := by rw [bne_eq_false_iff_eq]; omega
  refine Tot.ite (fun e4 => ?_) (fun e4 => Tot.ite (fun e5 => ?_) (fun e5 => bad (fun h => by have := h.std; omega)))
  · refine Tot.ite (fun e6 => good (by omega) (by omega) (by omega) (by omega) _ ⟨fun _ => .inl (by omega), fun _ => rfl⟩) (fun e6 => good (by omega) (by omega) (by omega) (by omega) _ (g6.trans ⟨fun g => .inr g, fun g => by omega⟩))
  · refine Tot.ite (fun e6 => good (by omega) (by omega) (by omega) (by omega) _ ⟨fun _ => .inl (by omega), fun _ => rfl⟩) (fun e6 => good (by omega) (by omega) (by omega) (by omega) _ (g6.trans ⟨fun g => .inr g, fun g => by omega⟩))
theorem few_f (b : S28) : Tot (zoneinforef19_Few.f b.f0 b.f1 b.f2 b.f3 b.f4 b.f5 b.f6) (fun v => v = true ↔ Sm b) := by
  unfold zoneinforef19_Few.f
  refine Tot.ite (fun h0 => ?_) (fun h => Tot.some ⟨fun g => absurd g (by decide), fun g => by have := g.l0; omega⟩)
  refine Tot.ite (fun h1 => ?_) (fun h => Tot.some ⟨fun g => absurd g (by decide), fun g => by have := g.l1; omega⟩)
  refine Tot.ite (fun h2 => ?_) (fun h => Tot.some ⟨fun g => absurd g (by decide), fun g => by have := g.l2; omega⟩)
  refine Tot.ite (fun h3 => ?_) (fun h => Tot.some ⟨fun g => absurd g (by decide), fun g => by have := g.l3; omega⟩)
  refine Tot.ite (fun h4 => ?_) (fun h => Tot.some ⟨fun g => absurd g (by decide), fun g => by have := g.l4; omega⟩)
  refine Tot.ite (fun h5 => ?_) (fun h => Tot.some ⟨fun g => absurd g (by decide), fun g => by have := g.l5; omega⟩)
  refine Tot.some ?_
  rw [decide_eq_true_iff]
  exact ⟨fun h6 => ⟨by omega, by omega, by omega, by omega, by omega, by omega, by omega⟩, fun g => by have := g.l6; omega⟩
theorem valid_f (hW : Wd b) (k : Nat) (hk : 3000 < k) : Tot (zoneinfolaw22_valid.f k b.f0 b.f1 b.f2 b.f3 b.f4 b.f5 b.f6) (fun v => v = true → Sm b ∧ BOk b 4 8) := by
  unfold zoneinfolaw22_valid.f
  refine Tot.bind (few_f b) fun v hv => Tot.ite (fun h => ?_) (fun _ => Tot.some fun e => by cases e)
  have hS := hv.1 h
  refine Tot.bind (block_f hS hW 4 8 (.inr rfl) k hk) fun u hu => Tot.some fun e => ⟨hS, hu.1 (by simpa using e)⟩
end Go.Proofs.Ytfomlahadnihhaa.Pure
