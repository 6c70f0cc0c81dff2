/- Valid blocks: what the reference's check answers, and the results of a type. -/
import Derived.Test.YtfminjencigfeaaWWords
import Derived.Test.YtfminjencigfeaaWMore
import Derived.Test.YtfminjencigfeaaOwn
import Derived.Test.YtfminjencigfeaaGx10
import Derived.Test.YtfminjencigfeaaGx11
import Derived.Test.YtfminjencigfeaaGx20
import Derived.Test.YtfminjencigfeaaGx7
import Derived.Test.YtfminjencigfeaaGx8
import Derived.Test.YtfminjencigfeaaGx9
import Derived.Test.YtfminjencigfeaaBase
import Derived.Test.YtfminjencigfeaaLook
import Derived.Test.YtfminjencigfeaaOpn
set_option linter.unusedVariables false
set_option linter.unusedSimpArgs false
namespace Go.Proofs.Ytfminjencigfeaa.Pure
open Go.RowKit Go.Proofs.Ytfminjencigfeaa.G Go.Proofs.YtfminjencigfeaaW.PrintWords Go.Proofs.YtfminjencigfeaaW.PrintLast Go.Proofs.YtfminjencigfeaaW.PrintMore

def Tot {α : Type} (o : Option α) (P : α → Prop) : Prop := ∃ v, o = some v ∧ P v
theorem Tot.some {α : Type} {v : α} {P : α → Prop} (h : P v) : Tot (some v) P := ⟨v, rfl, h⟩
theorem Tot.ite {α : Type} {c : Prop} [Decidable c] {a b : Option α} {P : α → Prop} (h : c → Tot a P) (g : ¬ c → Tot b P) : Tot (if c then a else b) P := by
  by_cases hc : c
  · rw [if_pos hc]; exact h hc
  · rw [if_neg hc]; exact g hc
theorem Tot.bind {α β : Type} {a : Option α} {f : α → Option β} {P : α → Prop} {Q : β → Prop} (h : Tot a P) (g : ∀ v, P v → Tot (f v) Q) : Tot (a.bind f) Q := by
  obtain ⟨v, e, hp⟩ := h
  obtain ⟨u, e2, hq⟩ := g v hp
  exact ⟨u, bnd e e2, hq⟩
theorem Tot.mono {α : Type} {o : Option α} {P Q : α → Prop} (h : Tot o P) (g : ∀ v, P v → Q v) : Tot o Q := by
  obtain ⟨v, e, hp⟩ := h
  exact ⟨v, e, g v hp⟩
theorem tot_fits8 (v : Int) (k : Nat) : Tot (zoneinforef01_Fits.f k v 8) (fun _ => True) := by
  unfold zoneinforef01_Fits.f
  rw [if_pos rfl]
  exact Tot.some trivial
def I64s (zs : List Int) : Prop := ∀ x ∈ zs, -9223372036854775808 ≤ x ∧ x ≤ 9223372036854775807
theorem I64s.of {l : List Int} (h : ∀ x ∈ l, (Lit.int .i64 x).wf = true) : I64s l := fun x hx => wf_i64 (h x hx)
theorem I64s.rd {zs : List Int} (h : I64s zs) (i : Nat) (hi : i < zs.length) : -9223372036854775808 ≤ rd zs (i : Int) ∧ rd zs (i : Int) ≤ 9223372036854775807 := by
  rw [rd_nat zs i hi]; exact h _ (List.getElem_mem hi)
theorem rd42_nat (l : List S42) (i : Nat) (h : i < l.length) : rd_T42 l (i : Int) = l[i] := by
  unfold rd_T42; simp [List.getD_eq_getElem?_getD, List.getElem?_eq_getElem h]
theorem rd55_nat (l : List S55) (i : Nat) (h : i < l.length) : rd_T55 l (i : Int) = l[i] := by
  unfold rd_T55; simp [List.getD_eq_getElem?_getD, List.getElem?_eq_getElem h]
def WfT (l : List S42) : Prop := ∀ x ∈ l, (-2147483648 ≤ x.f0 ∧ x.f0 ≤ 2147483647) ∧ 0 ≤ x.f2 ∧ x.f2 < 256
theorem WfT.of {l : List S42} (h : ∀ x ∈ l, Opn.Wf42 x) : WfT l := fun x hx => ⟨wf_i32 (h x hx).1, wf_u8 (h x hx).2⟩
theorem WfT.rd {l : List S42} (h : WfT l) (i : Nat) (hi : i < l.length) : (-2147483648 ≤ (rd_T42 l (i : Int)).f0 ∧ (rd_T42 l (i : Int)).f0 ≤ 2147483647) ∧ 0 ≤ (rd_T42 l (i : Int)).f2 ∧ (rd_T42 l (i : Int)).f2 < 256 := by
  rw [rd42_nat l i hi]; exact h _ (List.getElem_mem hi)
def WfS (l : List S55) : Prop := ∀ x ∈ l, (-9223372036854775808 ≤ x.f0 ∧ x.f0 ≤ 9223372036854775807) ∧ (-2147483648 ≤ x.f1 ∧ x.f1 ≤ 2147483647)
theorem WfS.of {l : List S55} (h : ∀ x ∈ l, Opn.Wf55 x) : WfS l := fun x hx => ⟨wf_i64 (h x hx).1, wf_i32 (h x hx).2⟩
theorem WfS.rd {l : List S55} (h : WfS l) (i : Nat) (hi : i < l.length) : (-9223372036854775808 ≤ (rd_T55 l (i : Int)).f0 ∧ (rd_T55 l (i : Int)).f0 ≤ 9223372036854775807) ∧ (-2147483648 ≤ (rd_T55 l (i : Int)).f1 ∧ (rd_T55 l (i : Int)).f1 ≤ 2147483647) := by
  rw [rd55_nat l i hi]; exact h _ (List.getElem_mem hi)
theorem tot_fit (zs : List Int) (hz : I64s zs) (hl : zs.length ≤ 1000) : ∀ (d i k : Nat), i + d = zs.length → d + 20 < k → Tot (zoneinforef15_Fit.l0 k zs 8 i) (fun _ => True) := by
  intro d
  induction d with
  | zero =>
    intro i k hi hk
    obtain ⟨k, rfl⟩ : ∃ j, k = j + 1 := ⟨k - 1, by omega⟩
    rw [zoneinforef15_Fit.l0, if_neg (by omega)]
    exact Tot.some trivial
  | succ d ih =>
    intro i k hi hk
    obtain ⟨k, rfl⟩ : ∃ j, k = j + 1 := ⟨k - 1, by omega⟩
    rw [zoneinforef15_Fit.l0, if_pos (by omega), if_pos (by omega)]
    refine Tot.bind (tot_fits8 _ k) fun v _ => Tot.ite (fun _ => ?_) (fun _ => Tot.some trivial)
    rw [w64 (by omega) (by omega), show (i : Int) + 1 = ((i + 1 : Nat) : Int) by omega]
    exact ih (i + 1) k (by omega) (by omega)
theorem tot_check1 (l : List S42) (hw : WfT l) (hl : l.length ≤ 1000) (n : Nat) : ∀ (d i k : Nat), i + d = l.length → d < k → Tot (zoneinforef16_Check.l1 k l (n : Int) i) (fun v => v = 0 → ∀ j : Nat, i ≤ j → j < l.length → (rd_T42 l (j : Int)).f2 < n) := by
  intro d
  induction d with
  | zero =>
    intro i k hi hk
    obtain ⟨k, rfl⟩ : ∃ j, k = j + 1 := ⟨k - 1, by omega⟩
    rw [zoneinforef16_Check.l1, if_neg (by omega)]
    exact Tot.some fun _ j h1 h2 => by omega
  | succ d ih =>
    intro i k hi hk
    obtain ⟨k, rfl⟩ : ∃ j, k = j + 1 := ⟨k - 1, by omega⟩
    have hb := hw.rd i (by omega)
    rw [zoneinforef16_Check.l1, if_pos (by omega), if_pos (by omega), w64 (x := (rd_T42 l (i : Int)).f2) (by omega) (by omega)]
    refine Tot.ite (fun _ => Tot.some fun e => by omega) fun hc => ?_
    rw [w64 (by omega) (by omega), show (i : Int) + 1 = ((i + 1 : Nat) : Int) by omega]
    refine (ih (i + 1) k (by omega) (by omega)).mono fun v hv e j h1 h2 => ?_
    rcases Nat.eq_or_lt_of_le h1 with h3 | h3
    · subst h3; omega
    · exact hv e j h3 h2
theorem tot_check0 (l : List S42) (hw : WfT l) (hl : l.length ≤ 1000) (n : Nat) : ∀ (d i k : Nat), i + d = l.length → d + l.length + 1 < k → Tot (zoneinforef16_Check.l0 k l (n : Int) i) (fun v => v = 0 → ∀ j : Nat, j < l.length → (rd_T42 l (j : Int)).f2 < n) := by
  intro d
  induction d with
  | zero =>
    intro i k hi hk
    obtain ⟨k, rfl⟩ : ∃ j, k = j + 1 := ⟨k - 1, by omega⟩
    rw [zoneinforef16_Check.l0, if_neg (by omega)]
    exact (tot_check1 l hw hl n l.length 0 k (by omega) (by omega)).mono fun v hv e j hj => hv e j (by omega) hj
  | succ d ih =>
    intro i k hi hk
    obtain ⟨k, rfl⟩ : ∃ j, k = j + 1 := ⟨k - 1, by omega⟩
    rw [zoneinforef16_Check.l0, if_pos (by omega), if_pos (by omega)]
    refine Tot.ite (fun _ => Tot.some fun e => by omega) fun hc => ?_
    rw [w64 (by omega) (by omega), show (i : Int) + 1 = ((i + 1 : Nat) : Int) by omega]
    exact ih (i + 1) k (by omega) (by omega)
theorem tot_check (l : List S42) (hw : WfT l) (hl : l.length ≤ 1000) (n : Nat) (k : Nat) (hk : l.length + l.length + 1 < k) : Tot (zoneinforef16_Check.f k l (n : Int)) (fun v => v = 0 → ∀ j : Nat, j < l.length → (rd_T42 l (j : Int)).f2 < n) :=
  tot_check0 l hw hl n l.length 0 k (by omega) hk
theorem tot_allowed (c : Int) : Tot (zoneinforef12_Allowed.f c) (fun _ => True) := by
  unfold zoneinforef12_Allowed.f
  repeat' first | exact Tot.some trivial | refine Tot.ite (fun _ => ?_) (fun _ => ?_)
theorem tot_bad (l : List Int) (hl : l.length ≤ 1000) : ∀ (d i k : Nat), i + d = l.length → d < k → Tot (zoneinforef12_Bad.l0 k l i) (fun _ => True) := by
  intro d
  induction d with
  | zero =>
    intro i k hi hk
    obtain ⟨k, rfl⟩ : ∃ j, k = j + 1 := ⟨k - 1, by omega⟩
    rw [zoneinforef12_Bad.l0, if_neg (by omega)]
    refine Tot.ite (fun h => ?_) (fun _ => Tot.some trivial)
    rw [w64 (x := (l.length : Int) - 1) (by omega) (by omega), if_pos (by omega), if_pos (by omega)]
    exact Tot.ite (fun _ => Tot.some trivial) (fun _ => Tot.some trivial)
  | succ d ih =>
    intro i k hi hk
    obtain ⟨k, rfl⟩ : ∃ j, k = j + 1 := ⟨k - 1, by omega⟩
    rw [zoneinforef12_Bad.l0, if_pos (by omega), if_pos (by omega), w64 (x := (i : Int) + 1) (by omega) (by omega), show (i : Int) + 1 = ((i + 1 : Nat) : Int) by omega]
    refine Tot.ite (fun _ => ih (i + 1) k (by omega) (by omega)) fun _ => (tot_allowed _).bind fun v _ => Tot.ite (fun _ => ih (i + 1) k (by omega) (by omega)) fun _ => Tot.some trivial
theorem tot_valid12 (l : List Int) (hl : l.length ≤ 1000) (k : Nat) (hk : l.length < k) : Tot (zoneinforef12_Valid.f k l) (fun _ => True) :=
  Tot.bind (tot_bad l hl l.length 0 k (by omega) hk) fun v _ => Tot.some trivial
theorem tot_leaps (l : List S55) (hl : l.length ≤ 1000) (ver : Int) : ∀ (d i k : Nat), i + d = l.length → 2 * d < k → Tot (zoneinforef17_Valid.l0 k l ver i) (fun _ => True) := by
  intro d
  induction d with
  | zero =>
    intro i k hi hk
    obtain ⟨k, rfl⟩ : ∃ j, k = j + 1 := ⟨k - 1, by omega⟩
    rw [zoneinforef17_Valid.l0, if_neg (by omega)]
    exact Tot.some trivial
  | succ d ih =>
    intro i k hi hk
    obtain ⟨k, rfl⟩ : ∃ j, k = j + 1 + 1 := ⟨k - 2, by omega⟩
    have hnx : ∀ q : Nat, 2 * d < q → Tot (zoneinforef17_Valid.l0 q l ver (wrap64 ((i : Int) + 1))) (fun _ => True) := fun q hq => by
      rw [w64 (by omega) (by omega), show (i : Int) + 1 = ((i + 1 : Nat) : Int) by omega]
      exact ih (i + 1) q (by omega) hq
    have hj : ∀ a b c, Tot (zoneinforef17_Valid.j1 (k + 1) l ver i a b c) (fun _ => True) := fun a b c => by
      rw [zoneinforef17_Valid.j1]
      repeat' first | exact Tot.some trivial | exact hnx k (by omega) | refine Tot.ite (fun _ => ?_) (fun _ => ?_)
    rw [zoneinforef17_Valid.l0, if_pos (by omega), if_pos (by omega)]
    refine Tot.ite (fun h0 => ?_) (fun h0 => ?_)
    · rw [if_pos (by omega)]
      repeat' first | exact Tot.some trivial | exact hnx (k + 1) (by omega) | refine Tot.ite (fun _ => ?_) (fun _ => ?_)
    · rw [w64 (x := (i : Int) - 1) (by omega) (by omega), if_pos (by omega), if_pos (by omega)]
      exact Tot.ite (fun _ => hj _ _ _) (fun _ => hj _ _ _)
theorem tot_ind (a b : List Bool) (hl : b.length ≤ 1000) : ∀ (d i k : Nat), i + d = b.length → d < k → Tot (zoneinforef18_Consistent.l0 k a b i) (fun _ => True) := by
  intro d
  induction d with
  | zero =>
    intro i k hi hk
    obtain ⟨k, rfl⟩ : ∃ j, k = j + 1 := ⟨k - 1, by omega⟩
    rw [zoneinforef18_Consistent.l0, if_neg (by omega)]
    exact Tot.some trivial
  | succ d ih =>
    intro i k hi hk
    obtain ⟨k, rfl⟩ : ∃ j, k = j + 1 := ⟨k - 1, by omega⟩
    rw [zoneinforef18_Consistent.l0, if_pos (by omega), w64 (by omega) (by omega), show (i : Int) + 1 = ((i + 1 : Nat) : Int) by omega, if_pos (show (0 : Int) ≤ (i : Int) by omega)]
    have := ih (i + 1) k (by omega) (by omega)
    have h0 : (0 : Int) ≤ (i : Int) := by omega
    simp only [if_pos h0]
    repeat' first | exact Tot.some trivial | exact this | refine Tot.ite (fun _ => ?_) (fun _ => ?_)
structure Good (b : Opn.S28) : Prop where
  times : b.f0.length ≤ 200
  types : b.f2.length ≤ 200
  chars : b.f3.length ≤ 600
  same : b.f1.length = b.f0.length
  some_ : 0 < b.f2.length
  asc : Asc b.f0
  index : ∀ j : Nat, j < b.f1.length → rd b.f1 (j : Int) < b.f2.length
  desig : ∀ j : Nat, j < b.f2.length → (rd_T42 b.f2 (j : Int)).f2 < b.f3.length
variable {b : Opn.S28}
theorem tot_l1 (hT : WfT b.f2) (hI : Byt b.f1) (l1 : b.f1.length ≤ 200) (l2 : b.f2.length ≤ 200) (l3 : b.f3.length ≤ 600) (l4 : b.f4.length ≤ 200) (l6 : b.f6.length ≤ 200) (ver : Int) : ∀ (d i k : Nat), i + d = b.f1.length → d + 700 < k →
    Tot (zoneinforef20_Block.l1 k ver (b.f2.length : Int) i b.f0 b.f1 b.f2 b.f3 b.f4 b.f5 b.f6) (fun v => v = 0 → (∀ j : Nat, i ≤ j → j < b.f1.length → rd b.f1 (j : Int) < b.f2.length) ∧ ∀ j : Nat, j < b.f2.length → (rd_T42 b.f2 (j : Int)).f2 < b.f3.length) := by
  intro d
  induction d with
  | zero =>
    intro i k hi hk
    obtain ⟨k, rfl⟩ : ∃ j, k = j + 1 := ⟨k - 1, by omega⟩
    rw [zoneinforef20_Block.l1, if_neg (by omega)]
    refine Tot.bind (tot_check b.f2 hT (by omega) b.f3.length k (by omega)) fun v hv => Tot.ite (fun h0 => ?_) (fun h0 => Tot.some fun e => absurd e h0)
    refine Tot.bind (tot_valid12 b.f3 (by omega) k (by omega)) fun _ _ => Tot.ite (fun _ => ?_) (fun _ => Tot.some fun e => by omega)
    refine Tot.bind (tot_leaps b.f4 (by omega) ver b.f4.length 0 k (by omega) (by omega)) fun _ _ => Tot.ite (fun _ => ?_) (fun _ => Tot.some fun e => by omega)
    refine Tot.bind (tot_ind b.f5 b.f6 (by omega) b.f6.length 0 k (by omega) (by omega)) fun _ _ => Tot.ite (fun _ => ?_) (fun _ => Tot.some fun e => by omega)
    exact Tot.some fun _ => ⟨fun j h1 h2 => by omega, hv h0⟩
  | succ d ih =>
    intro i k hi hk
    obtain ⟨k, rfl⟩ : ∃ j, k = j + 1 := ⟨k - 1, by omega⟩
    have hb := hI.rd (i : Int)
    rw [zoneinforef20_Block.l1, if_pos (by omega), if_pos (by omega), w64 (x := rd b.f1 (i : Int)) (by omega) (by omega), w64 (x := (i : Int) + 1) (by omega) (by omega), show (i : Int) + 1 = ((i + 1 : Nat) : Int) by omega]
    refine Tot.ite (fun _ => Tot.some fun e => by omega) fun hc => ?_
    refine (ih (i + 1) k (by omega) (by omega)).mono fun v hv e => ⟨fun j h1 h2 => ?_, (hv e).2⟩
    rcases Nat.eq_or_lt_of_le h1 with h3 | h3
    · subst h3; omega
    · exact (hv e).1 j h3 h2
theorem tot_l0 (hS : WfS b.f4) (hT : WfT b.f2) (hI : Byt b.f1) (l0 : b.f0.length ≤ 200) (l1 : b.f1.length ≤ 200) (l2 : b.f2.length ≤ 200) (l3 : b.f3.length ≤ 600) (l4 : b.f4.length ≤ 200) (l6 : b.f6.length ≤ 200) (ver : Int) : ∀ (d i k : Nat), i + d = b.f4.length → d + 1000 < k →
    Tot (zoneinforef20_Block.l0 k ver 8 (b.f2.length : Int) i b.f0 b.f1 b.f2 b.f3 b.f4 b.f5 b.f6) (fun v => v = 0 → Asc b.f0 ∧ (∀ j : Nat, j < b.f1.length → rd b.f1 (j : Int) < b.f2.length) ∧ ∀ j : Nat, j < b.f2.length → (rd_T42 b.f2 (j : Int)).f2 < b.f3.length) := by
  intro d
  induction d with
  | zero =>
    intro i k hi hk
    obtain ⟨k, rfl⟩ : ∃ j, k = j + 1 := ⟨k - 1, by omega⟩
    rw [zoneinforef20_Block.l0, if_neg (by omega)]
    refine Tot.bind (rdesc_f b.f0 (by omega) k (by omega)) fun v hv => Tot.ite (fun h0 => ?_) (fun h0 => Tot.some fun e => by omega)
    exact (tot_l1 hT hI l1 l2 l3 l4 l6 ver b.f1.length 0 k (by omega) (by omega)).mono fun u hu e => ⟨hv h0, fun j hj => (hu e).1 j (by omega) hj, (hu e).2⟩
  | succ d ih =>
    intro i k hi hk
    obtain ⟨k, rfl⟩ : ∃ j, k = j + 1 := ⟨k - 1, by omega⟩
    rw [zoneinforef20_Block.l0, if_pos (by omega), if_pos (by omega)]
    refine Tot.bind (tot_fits8 _ k) fun v _ => Tot.ite (fun _ => ?_) (fun _ => Tot.some fun e => by omega)
    rw [w64 (by omega) (by omega), show (i : Int) + 1 = ((i + 1 : Nat) : Int) by omega]
    exact ih (i + 1) k (by omega) (by omega)
theorem valid_f (hz : I64s b.f0) (hS : WfS b.f4) (hT : WfT b.f2) (hI : Byt b.f1) (k : Nat) (hk : 1500 < k) :
    Tot (zoneinfolaw23_valid.f k b.f0 b.f1 b.f2 b.f3 b.f4 b.f5 b.f6) (fun v => v = true → Good b) := by
  unfold zoneinfolaw23_valid.f
  have hfew : Tot (zoneinforef19_Few.f b.f0 b.f1 b.f2 b.f3 b.f4 b.f5 b.f6) (fun v => v = true → b.f0.length ≤ 200 ∧ b.f1.length ≤ 200 ∧ b.f2.length ≤ 200 ∧ b.f3.length ≤ 600 ∧ b.f4.length ≤ 200 ∧ b.f5.length ≤ 200 ∧ b.f6.length ≤ 200) := by
    unfold zoneinforef19_Few.f
    repeat' first | exact Tot.some (fun h => by first | exact absurd h (by decide) | (have h := of_decide_eq_true h; omega)) | refine Tot.ite (fun _ => ?_) (fun _ => ?_)
  refine hfew.bind fun v hv => Tot.ite (fun h => ?_) (fun _ => Tot.some fun e => by cases e)
  obtain ⟨l0, l1, l2, l3, l4, l5, l6⟩ := hv h
  have hj : ∀ c : Bool, Tot (zoneinforef20_Block.j0 k 4 8 (b.f2.length : Int) c b.f0 b.f1 b.f2 b.f3 b.f4 b.f5 b.f6) (fun v => v = 0 → Asc b.f0 ∧ (∀ j : Nat, j < b.f1.length → rd b.f1 (j : Int) < b.f2.length) ∧ ∀ j : Nat, j < b.f2.length → (rd_T42 b.f2 (j : Int)).f2 < b.f3.length) := fun c => by
    obtain ⟨k, rfl⟩ : ∃ j, k = j + 1 := ⟨k - 1, by omega⟩
    rw [zoneinforef20_Block.j0]
    refine Tot.ite (fun _ => Tot.some fun e => by omega) fun _ => Tot.bind (tot_fit b.f0 hz (by omega) b.f0.length 0 k (by omega) (by omega)) fun v _ => Tot.ite (fun _ => ?_) (fun _ => Tot.some fun e => by omega)
    exact tot_l0 hS hT hI l0 l1 l2 l3 l4 l6 4 b.f4.length 0 k (by omega) (by omega)
  have hbad : Tot (zoneinforef20_Block.j0 k 4 8 (b.f2.length : Int) true b.f0 b.f1 b.f2 b.f3 b.f4 b.f5 b.f6) (fun v => v = 0 → Good b) := by
    obtain ⟨k, rfl⟩ : ∃ j, k = j + 1 := ⟨k - 1, by omega⟩
    rw [zoneinforef20_Block.j0, if_pos rfl]
    exact Tot.some fun e => by omega
  have hall : Tot (zoneinforef20_Block.f k b.f0 b.f1 b.f2 b.f3 b.f4 b.f5 b.f6 4 8) (fun v => v = 0 → Good b) := by
    unfold zoneinforef20_Block.f
    refine Tot.ite (fun h1 => Tot.ite (fun _ => hbad) (fun h2 => ?_)) (fun _ => hbad)
    have hg : ∀ c : Bool, Tot (zoneinforef20_Block.j0 k 4 8 (b.f2.length : Int) c b.f0 b.f1 b.f2 b.f3 b.f4 b.f5 b.f6) (fun v => v = 0 → Good b) := fun c => (hj c).mono fun v hv e => ⟨l0, l2, l3, by omega, by omega, (hv e).1, (hv e).2.1, (hv e).2.2⟩
    repeat' first | exact hg _ | exact hbad | refine Tot.ite (fun _ => ?_) (fun _ => ?_)
  refine hall.bind fun v hv => Tot.some fun e => hv (by simpa using e)
end Go.Proofs.Ytfminjencigfeaa.Pure
