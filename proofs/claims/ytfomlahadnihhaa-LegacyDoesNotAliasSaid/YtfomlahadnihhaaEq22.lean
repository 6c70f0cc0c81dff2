/- Equal lists, told by the loops that compare them; Equal of blocks, and the slim block. -/
import Derived.Test.YtfomlahadnihhaaWWords
import Derived.Test.YtfomlahadnihhaaWMore
import Derived.Test.YtfomlahadnihhaaOwn
import Derived.Test.YtfomlahadnihhaaGx3
import Derived.Test.YtfomlahadnihhaaGx7
import Derived.Test.YtfomlahadnihhaaGx8
import Derived.Test.YtfomlahadnihhaaBase
import Derived.Test.YtfomlahadnihhaaVb22
set_option linter.unusedVariables false
set_option linter.unusedSimpArgs false
namespace Go.Proofs.Ytfomlahadnihhaa.Pure
open Go.RowKit Go.Proofs.Ytfomlahadnihhaa.G Go.Proofs.YtfomlahadnihhaaW.PrintWords Go.Proofs.YtfomlahadnihhaaW.PrintLast Go.Proofs.YtfomlahadnihhaaW.PrintMore
theorem ne38 (x y : S38) : (!(x.f0 == y.f0) || (!(x.f1 == y.f1) || !(x.f2 == y.f2))) = true ↔ ¬ x = y := by
  cases x with
  | mk a b c =>
    cases y with
    | mk d e f => simp only [S38.mk.injEq, Bool.or_eq_true, Bool.not_eq_true', beq_eq_false_iff_ne, ne_eq]; by_cases h : a = d <;> by_cases h2 : b = e <;> by_cases h3 : c = f <;> simp [h, h2, h3]
theorem ne42 (x y : S42) : (!(x.f0 == y.f0) || !(x.f1 == y.f1)) = true ↔ ¬ x = y := by
  cases x with
  | mk a b =>
    cases y with
    | mk d e => simp only [S42.mk.injEq, Bool.or_eq_true, Bool.not_eq_true', beq_eq_false_iff_ne, ne_eq]; by_cases h : a = d <;> by_cases h2 : b = e <;> simp [h, h2]
theorem neB (x y : Bool) : (x != y) = true ↔ ¬ x = y := by cases x <;> cases y <;> decide
theorem ext_by {α : Type} (f : List α → Int → α) (hf : ∀ (l : List α) (i : Nat) (h : i < l.length), f l (i : Int) = l[i]) {a b : List α} (hl : a.length = b.length) : a = b ↔ ∀ j : Nat, 0 ≤ j → j < a.length → f a (j : Int) = f b (j : Int) := by
  constructor
  · rintro rfl j _ _; rfl
  · intro h
    refine List.ext_getElem hl (fun i h1 h2 => ?_)
    rw [← hf a i h1, ← hf b i h2]
    exact h i (Nat.zero_le i) h1
theorem rdB_nat (l : List Bool) (i : Nat) (h : i < l.length) : rdOf false l (i : Int) = l[i] := by
  unfold rdOf; simp [List.getD_eq_getElem?_getD, List.getElem?_eq_getElem h]
theorem s15_l (a b : List Int) (hab : a.length = b.length) (hl : a.length ≤ 1000000) : ∀ (d i k : Nat), i + d = a.length → d < k → Tot (zoneinforef15_Same.l0 k a b (i : Int)) (fun v => v = true ↔ ∀ j : Nat, i ≤ j → j < a.length → rd a (j : Int) = rd b (j : Int)) := by
  intro d
  induction d with
  | zero =>
    intro i k hi hk
    obtain ⟨k, rfl⟩ : ∃ j, k = j + 1 := ⟨k - 1, by omega⟩
    rw [zoneinforef15_Same.l0, if_neg (by omega)]
    exact Tot.some ⟨fun _ => all_end (by omega), fun _ => rfl⟩
  | succ d ih =>
    intro i k hi hk
    obtain ⟨k, rfl⟩ : ∃ j, k = j + 1 := ⟨k - 1, by omega⟩
    rw [zoneinforef15_Same.l0, if_pos (by omega), if_pos (by omega), if_pos (by omega), next i (by omega)]
    refine Tot.ite (fun h => (ih (i + 1) k (by omega) (by omega)).mono fun v hv => by
      rw [hv, all_step (P := fun j => rd a (j : Int) = rd b (j : Int)) (i := i) (by omega)]; exact ⟨fun g => ⟨h, g⟩, fun g => g.2⟩) (fun h => Tot.some (by
      rw [all_step (P := fun j => rd a (j : Int) = rd b (j : Int)) (i := i) (by omega)]; exact ⟨fun g => absurd g (by decide), fun g => absurd g.1 h⟩))
theorem s15_f (a b : List Int) (hl : a.length ≤ 1000000) (k : Nat) (hk : a.length < k) : Tot (zoneinforef15_Same.f k a b) (fun v => v = true ↔ a = b) := by
  unfold zoneinforef15_Same.f
  refine Tot.ite (fun h => ?_) (fun h => Tot.some ⟨fun g => absurd g (by decide), fun g => absurd (by rw [g]) h⟩)
  exact (s15_l a b (by omega) hl a.length 0 k (by omega) hk).mono fun v hv => hv.trans (ext_by (rd) rd_nat (by omega)).symm
theorem s01_l (a b : List Int) (hab : a.length = b.length) (hl : a.length ≤ 1000000) : ∀ (d i k : Nat), i + d = a.length → d < k → Tot (zoneinforef01_Same.l0 k a b (i : Int)) (fun v => v = true ↔ ∀ j : Nat, i ≤ j → j < a.length → rd a (j : Int) = rd b (j : Int)) := by
  intro d
  induction d with
  | zero =>
    intro i k hi hk
    obtain ⟨k, rfl⟩ : ∃ j, k = j + 1 := ⟨k - 1, by omega⟩
    rw [zoneinforef01_Same.l0, if_neg (by omega)]
    exact Tot.some ⟨fun _ => all_end (by omega), fun _ => rfl⟩
  | succ d ih =>
    intro i k hi hk
    obtain ⟨k, rfl⟩ : ∃ j, k = j + 1 := ⟨k - 1, by omega⟩
    rw [zoneinforef01_Same.l0, if_pos (by omega), if_pos (by omega), if_pos (by omega), next i (by omega)]
    refine Tot.ite (fun h => (ih (i + 1) k (by omega) (by omega)).mono fun v hv => by
      rw [hv, all_step (P := fun j => rd a (j : Int) = rd b (j : Int)) (i := i) (by omega)]; exact ⟨fun g => ⟨h, g⟩, fun g => g.2⟩) (fun h => Tot.some (by
      rw [all_step (P := fun j => rd a (j : Int) = rd b (j : Int)) (i := i) (by omega)]; exact ⟨fun g => absurd g (by decide), fun g => absurd g.1 h⟩))
theorem s01_f (a b : List Int) (hl : a.length ≤ 1000000) (k : Nat) (hk : a.length < k) : Tot (zoneinforef01_Same.f k a b) (fun v => v = true ↔ a = b) := by
  unfold zoneinforef01_Same.f
  refine Tot.ite (fun h => ?_) (fun h => Tot.some ⟨fun g => absurd g (by decide), fun g => absurd (by rw [g]) h⟩)
  exact (s01_l a b (by omega) hl a.length 0 k (by omega) hk).mono fun v hv => hv.trans (ext_by (rd) rd_nat (by omega)).symm
theorem s16_l (a b : List S38) (hab : a.length = b.length) (hl : a.length ≤ 1000000) : ∀ (d i k : Nat), i + d = a.length → d < k → Tot (zoneinforef16_Same.l0 k a b (i : Int)) (fun v => v = true ↔ ∀ j : Nat, i ≤ j → j < a.length → rd_T38 a (j : Int) = rd_T38 b (j : Int)) := by
  intro d
  induction d with
  | zero =>
    intro i k hi hk
    obtain ⟨k, rfl⟩ : ∃ j, k = j + 1 := ⟨k - 1, by omega⟩
    rw [zoneinforef16_Same.l0, if_neg (by omega)]
    exact Tot.some ⟨fun _ => all_end (by omega), fun _ => rfl⟩
  | succ d ih =>
    intro i k hi hk
    obtain ⟨k, rfl⟩ : ∃ j, k = j + 1 := ⟨k - 1, by omega⟩
    rw [zoneinforef16_Same.l0, if_pos (by omega), if_pos (by omega), if_pos (by omega), next i (by omega)]
    refine Tot.ite (fun h => Tot.some (by
      rw [all_step (P := fun j => rd_T38 a (j : Int) = rd_T38 b (j : Int)) (i := i) (by omega)]; exact ⟨fun g => absurd g (by decide), fun g => absurd g.1 ((ne38 _ _).1 h)⟩)) (fun h => (ih (i + 1) k (by omega) (by omega)).mono fun v hv => by
      rw [hv, all_step (P := fun j => rd_T38 a (j : Int) = rd_T38 b (j : Int)) (i := i) (by omega)]; exact ⟨fun g => ⟨Classical.byContradiction fun e => h ((ne38 _ _).2 e), g⟩, fun g => g.2⟩)
theorem s16_f (a b : List S38) (hl : a.length ≤ 1000000) (k : Nat) (hk : a.length < k) : Tot (zoneinforef16_Same.f k a b) (fun v => v = true ↔ a = b) := by
  unfold zoneinforef16_Same.f
  refine Tot.ite (fun h => ?_) (fun h => Tot.some ⟨fun g => absurd g (by decide), fun g => absurd (by rw [g]) h⟩)
  exact (s16_l a b (by omega) hl a.length 0 k (by omega) hk).mono fun v hv => hv.trans (ext_by (rd_T38) rd38_nat (by omega)).symm
theorem s17_l (a b : List S42) (hab : a.length = b.length) (hl : a.length ≤ 1000000) : ∀ (d i k : Nat), i + d = a.length → d < k → Tot (zoneinforef17_Same.l0 k a b (i : Int)) (fun v => v = true ↔ ∀ j : Nat, i ≤ j → j < a.length → rd_T42 a (j : Int) = rd_T42 b (j : Int)) := by
  intro d
  induction d with
  | zero =>
    intro i k hi hk
    obtain ⟨k, rfl⟩ : ∃ j, k = j + 1 := ⟨k - 1, by omega⟩
    rw [zoneinforef17_Same.l0, if_neg (by omega)]
    exact Tot.some ⟨fun _ => all_end (by omega), fun _ => rfl⟩
  | succ d ih =>
    intro i k hi hk
    obtain ⟨k, rfl⟩ : ∃ j, k = j + 1 := ⟨k - 1, by omega⟩
    rw [zoneinforef17_Same.l0, if_pos (by omega), if_pos (by omega), if_pos (by omega), next i (by omega)]
    refine Tot.ite (fun h => Tot.some (by
      rw [all_step (P := fun j => rd_T42 a (j : Int) = rd_T42 b (j : Int)) (i := i) (by omega)]; exact ⟨fun g => absurd g (by decide), fun g => absurd g.1 ((ne42 _ _).1 h)⟩)) (fun h => (ih (i + 1) k (by omega) (by omega)).mono fun v hv => by
      rw [hv, all_step (P := fun j => rd_T42 a (j : Int) = rd_T42 b (j : Int)) (i := i) (by omega)]; exact ⟨fun g => ⟨Classical.byContradiction fun e => h ((ne42 _ _).2 e), g⟩, fun g => g.2⟩)
theorem s17_f (a b : List S42) (hl : a.length ≤ 1000000) (k : Nat) (hk : a.length < k) : Tot (zoneinforef17_Same.f k a b) (fun v => v = true ↔ a = b) := by
  unfold zoneinforef17_Same.f
  refine Tot.ite (fun h => ?_) (fun h => Tot.some ⟨fun g => absurd g (by decide), fun g => absurd (by rw [g]) h⟩)
  exact (s17_l a b (by omega) hl a.length 0 k (by omega) hk).mono fun v hv => hv.trans (ext_by (rd_T42) rd42_nat (by omega)).symm
theorem s18_l (a b : List Bool) (hab : a.length = b.length) (hl : a.length ≤ 1000000) : ∀ (d i k : Nat), i + d = a.length → d < k → Tot (zoneinforef18_Same.l0 k a b (i : Int)) (fun v => v = true ↔ ∀ j : Nat, i ≤ j → j < a.length → rdOf false a (j : Int) = rdOf false b (j : Int)) := by
  intro d
  induction d with
  | zero =>
    intro i k hi hk
    obtain ⟨k, rfl⟩ : ∃ j, k = j + 1 := ⟨k - 1, by omega⟩
    rw [zoneinforef18_Same.l0, if_neg (by omega)]
    exact Tot.some ⟨fun _ => all_end (by omega), fun _ => rfl⟩
  | succ d ih =>
    intro i k hi hk
    obtain ⟨k, rfl⟩ : ∃ j, k = j + 1 := ⟨k - 1, by omega⟩
    rw [zoneinforef18_Same.l0, if_pos (by omega), if_pos (by omega), if_pos (by omega), next i (by omega)]
    refine Tot.ite (fun h => Tot.some (by
      rw [all_step (P := fun j => rdOf false a (j : Int) = rdOf false b (j : Int)) (i := i) (by omega)]; exact ⟨fun g => absurd g (by decide), fun g => absurd g.1 ((neB _ _).1 h)⟩)) (fun h => (ih (i + 1) k (by omega) (by omega)).mono fun v hv => by
      rw [hv, all_step (P := fun j => rdOf false a (j : Int) = rdOf false b (j : Int)) (i := i) (by omega)]; exact ⟨fun g => ⟨Classical.byContradiction fun e => h ((neB _ _).2 e), g⟩, fun g => g.2⟩)
theorem s18_f (a b : List Bool) (hl : a.length ≤ 1000000) (k : Nat) (hk : a.length < k) : Tot (zoneinforef18_Same.f k a b) (fun v => v = true ↔ a = b) := by
  unfold zoneinforef18_Same.f
  refine Tot.ite (fun h => ?_) (fun h => Tot.some ⟨fun g => absurd g (by decide), fun g => absurd (by rw [g]) h⟩)
  exact (s18_l a b (by omega) hl a.length 0 k (by omega) hk).mono fun v hv => hv.trans (ext_by (rdOf false) rdB_nat (by omega)).symm
theorem e21_l (a b : List S38) (hab : a.length = b.length) (hl : a.length ≤ 1000000) : ∀ (d i k : Nat), i + d = a.length → d < k → Tot (api_Type_21.l0 k a b (a.length : Int) (i : Int)) (fun v => v = true ↔ ∀ j : Nat, i ≤ j → j < a.length → rd_T38 a (j : Int) = rd_T38 b (j : Int)) := by
  intro d
  induction d with
  | zero =>
    intro i k hi hk
    obtain ⟨k, rfl⟩ : ∃ j, k = j + 1 := ⟨k - 1, by omega⟩
    rw [api_Type_21.l0, if_neg (by omega)]
    exact Tot.some ⟨fun _ => all_end (by omega), fun _ => rfl⟩
  | succ d ih =>
    intro i k hi hk
    obtain ⟨k, rfl⟩ : ∃ j, k = j + 1 := ⟨k - 1, by omega⟩
    rw [api_Type_21.l0, if_pos (by omega), if_pos (by omega), if_pos (by omega), if_pos (by omega), next i (by omega)]
    refine Tot.ite (fun h => Tot.some (by
      rw [all_step (P := fun j => rd_T38 a (j : Int) = rd_T38 b (j : Int)) (i := i) (by omega)]; exact ⟨fun g => absurd g (by decide), fun g => absurd g.1 ((ne38 _ _).1 h)⟩)) (fun h => (ih (i + 1) k (by omega) (by omega)).mono fun v hv => by
      rw [hv, all_step (P := fun j => rd_T38 a (j : Int) = rd_T38 b (j : Int)) (i := i) (by omega)]; exact ⟨fun g => ⟨Classical.byContradiction fun e => h ((ne38 _ _).2 e), g⟩, fun g => g.2⟩)
theorem e21_f (a b : List S38) (hl : a.length ≤ 1000000) (k : Nat) (hk : a.length < k) : Tot (api_Type_21.f k a b) (fun v => v = true ↔ a = b) := by
  unfold api_Type_21.f
  refine Tot.ite (fun h => ?_) (fun h => Tot.some ⟨fun g => absurd g (by decide), fun g => absurd (by rw [g]) h⟩)
  exact (e21_l a b (by omega) hl a.length 0 k (by omega) hk).mono fun v hv => hv.trans (ext_by (rd_T38) rd38_nat (by omega)).symm
theorem e22_l (a b : List Int) (hab : a.length = b.length) (hl : a.length ≤ 1000000) : ∀ (d i k : Nat), i + d = a.length → d < k → Tot (slices_Equal_byte_byte.l0 k a b (a.length : Int) (i : Int)) (fun v => v = true ↔ ∀ j : Nat, i ≤ j → j < a.length → rd a (j : Int) = rd b (j : Int)) := by
  intro d
  induction d with
  | zero =>
    intro i k hi hk
    obtain ⟨k, rfl⟩ : ∃ j, k = j + 1 := ⟨k - 1, by omega⟩
    rw [slices_Equal_byte_byte.l0, if_neg (by omega)]
    exact Tot.some ⟨fun _ => all_end (by omega), fun _ => rfl⟩
  | succ d ih =>
    intro i k hi hk
    obtain ⟨k, rfl⟩ : ∃ j, k = j + 1 := ⟨k - 1, by omega⟩
    rw [slices_Equal_byte_byte.l0, if_pos (by omega), if_pos (by omega), if_pos (by omega), if_pos (by omega), next i (by omega)]
    refine Tot.ite (fun h => (ih (i + 1) k (by omega) (by omega)).mono fun v hv => by
      rw [hv, all_step (P := fun j => rd a (j : Int) = rd b (j : Int)) (i := i) (by omega)]; exact ⟨fun g => ⟨h, g⟩, fun g => g.2⟩) (fun h => Tot.some (by
      rw [all_step (P := fun j => rd a (j : Int) = rd b (j : Int)) (i := i) (by omega)]; exact ⟨fun g => absurd g (by decide), fun g => absurd g.1 h⟩))
theorem e22_f (a b : List Int) (hl : a.length ≤ 1000000) (k : Nat) (hk : a.length < k) : Tot (slices_Equal_byte_byte.f k a b) (fun v => v = true ↔ a = b) := by
  unfold slices_Equal_byte_byte.f
  refine Tot.ite (fun h => ?_) (fun h => Tot.some ⟨fun g => absurd g (by decide), fun g => absurd (by rw [g]) h⟩)
  exact (e22_l a b (by omega) hl a.length 0 k (by omega) hk).mono fun v hv => hv.trans (ext_by (rd) rd_nat (by omega)).symm
/-- Equal of two blocks. -/
theorem equal_f {a b : S28} (hS : Sm a) (k : Nat) (hk : 2000 < k) : Tot (zoneinforef19_Equal.f k a.f0 a.f1 a.f2 a.f3 a.f4 a.f5 a.f6 b.f0 b.f1 b.f2 b.f3 b.f4 b.f5 b.f6) (fun v => v = true ↔ a = b) := by
  have h0 := hS.l0
  have h1 := hS.l1
  have h2 := hS.l2
  have h3 := hS.l3
  have h4 := hS.l4
  have h5 := hS.l5
  have h6 := hS.l6
  unfold zoneinforef19_Equal.f
  refine Tot.bind (s15_f a.f0 b.f0 (by omega) k (by omega)) fun v0 e0 => Tot.ite (fun g0 => ?_) (fun g => Tot.some ⟨fun e => absurd e (by decide), fun e => absurd (e0.2 (by rw [e])) g⟩)
  refine Tot.bind (s01_f a.f1 b.f1 (by omega) k (by omega)) fun v1 e1 => Tot.ite (fun g1 => ?_) (fun g => Tot.some ⟨fun e => absurd e (by decide), fun e => absurd (e1.2 (by rw [e])) g⟩)
  refine Tot.bind (s16_f a.f2 b.f2 (by omega) k (by omega)) fun v2 e2 => Tot.ite (fun g2 => ?_) (fun g => Tot.some ⟨fun e => absurd e (by decide), fun e => absurd (e2.2 (by rw [e])) g⟩)
  refine Tot.bind (s01_f a.f3 b.f3 (by omega) k (by omega)) fun v3 e3 => Tot.ite (fun g3 => ?_) (fun g => Tot.some ⟨fun e => absurd e (by decide), fun e => absurd (e3.2 (by rw [e])) g⟩)
  refine Tot.bind (s17_f a.f4 b.f4 (by omega) k (by omega)) fun v4 e4 => Tot.ite (fun g4 => ?_) (fun g => Tot.some ⟨fun e => absurd e (by decide), fun e => absurd (e4.2 (by rw [e])) g⟩)
  refine Tot.bind (s18_f a.f5 b.f5 (by omega) k (by omega)) fun v5 e5 => Tot.ite (fun g5 => ?_) (fun g => Tot.some ⟨fun e => absurd e (by decide), fun e => absurd (e5.2 (by rw [e])) g⟩)
  refine Tot.bind (s18_f a.f6 b.f6 (by omega) k (by omega)) fun v6 e6 => Tot.some ⟨fun g6 => ?_, fun e => e6.2 (by rw [e])⟩
  have q0 := e0.1 g0
  have q1 := e1.1 g1
  have q2 := e2.1 g2
  have q3 := e3.1 g3
  have q4 := e4.1 g4
  have q5 := e5.1 g5
  have q6 := e6.1 g6
  cases a
  cases b
  simp only at q0 q1 q2 q3 q4 q5 q6
  rw [q0, q1, q2, q3, q4, q5, q6]
def slim : S28 := ⟨[], [], [⟨0, false, 0⟩], [0], [], [], []⟩
theorem isSlim_f {a : S28} (hS : Sm a) (k : Nat) (hk : 2000 < k) : Tot (legacy_IsSlim.f k a.f0 a.f1 a.f2 a.f3 a.f4 a.f5 a.f6) (fun v => v = true ↔ a = slim) := by
  have h0 := hS.l0
  have h1 := hS.l1
  have h2 := hS.l2
  have h3 := hS.l3
  have h4 := hS.l4
  have h5 := hS.l5
  have h6 := hS.l6
  unfold legacy_IsSlim.f
  rw [w64 (x := (a.f0.length : Int) + (a.f1.length : Int)) (by omega) (by omega), w64 (x := (a.f0.length : Int) + (a.f1.length : Int) + (a.f4.length : Int)) (by omega) (by omega), w64 (x := (a.f0.length : Int) + (a.f1.length : Int) + (a.f4.length : Int) + (a.f5.length : Int)) (by omega) (by omega), w64 (by omega) (by omega)]
  refine Tot.ite (fun g0 => ?_) (fun g => Tot.some ⟨fun e => absurd e (by decide), fun e => absurd (by rw [e]; rfl) g⟩)
  refine Tot.bind (e21_f a.f2 [⟨0, false, 0⟩] (by omega) k (by omega)) fun v2 e2 => Tot.ite (fun g2 => ?_) (fun g => Tot.some ⟨fun e => absurd e (by decide), fun e => absurd (e2.2 (by rw [e]; rfl)) g⟩)
  refine Tot.bind (e22_f a.f3 [0] (by omega) k (by omega)) fun v3 e3 => Tot.some ⟨fun g3 => ?_, fun e => e3.2 (by rw [e]; rfl)⟩
  have q2 := e2.1 g2
  have q3 := e3.1 g3
  have q0 : a.f0 = [] := List.eq_nil_of_length_eq_zero (by omega)
  have q1 : a.f1 = [] := List.eq_nil_of_length_eq_zero (by omega)
  have q4 : a.f4 = [] := List.eq_nil_of_length_eq_zero (by omega)
  have q5 : a.f5 = [] := List.eq_nil_of_length_eq_zero (by omega)
  have q6 : a.f6 = [] := List.eq_nil_of_length_eq_zero (by omega)
  cases a
  simp only at q0 q1 q2 q3 q4 q5 q6
  rw [q0, q1, q2, q3, q4, q5, q6]
  rfl
theorem slim_sm : Sm slim := ⟨by decide, by decide, by decide, by decide, by decide, by decide, by decide⟩
theorem slim_f : legacy_Slim.f = some (slim.f0, slim.f1, slim.f2, slim.f3, slim.f4, slim.f5, slim.f6) := by
  unfold legacy_Slim.f desigs_Build.f
  rfl
/-- A sure answer. -/
theorem Tot.sure {o : Option Bool} {P : Prop} (h : Tot o (fun v => v = true ↔ P)) (hp : P) : o = Option.some true := by
  obtain ⟨v, e, hv⟩ := h
  rw [e, hv.2 hp]
end Go.Proofs.Ytfomlahadnihhaa.Pure
