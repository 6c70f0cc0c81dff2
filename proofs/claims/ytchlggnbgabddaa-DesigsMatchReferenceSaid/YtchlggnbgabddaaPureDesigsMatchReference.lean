/- The plain law behind the walk of DesigsMatchReference. No condition. -/
import Derived.Test.YtchlggnbgabddaaWWords
import Derived.Test.YtchlggnbgabddaaWMore
import Derived.Test.YtchlggnbgabddaaOwn
import Derived.Test.YtchlggnbgabddaaGx15
import Derived.Test.YtchlggnbgabddaaGx22
import Derived.Test.YtchlggnbgabddaaGx24
import Derived.Test.YtchlggnbgabddaaGx26
import Derived.Test.YtchlggnbgabddaaBase
import Derived.Test.YtchlggnbgabddaaBig
import Derived.Test.YtchlggnbgabddaaDes
import Derived.Test.YtchlggnbgabddaaNam
import Derived.Test.YtchlggnbgabddaaSayDesigsMatchReference
set_option linter.unusedVariables false
set_option linter.unusedSimpArgs false
namespace Go.Proofs.Ytchlggnbgabddaa.Pure
open Go.RowKit Go.Proofs.Ytchlggnbgabddaa.G Go.Proofs.YtchlggnbgabddaaW.PrintWords Go.Proofs.YtchlggnbgabddaaW.PrintLast Go.Proofs.YtchlggnbgabddaaW.PrintMore
/-- With rounds enough. -/
def Ev {α : Type} (f : Nat → Option α) (r : α) : Prop := ∃ k0, ∀ k, k0 ≤ k → f k = some r
theorem Ev.succ {α : Type} {f g : Nat → Option α} {r : α} (h : Ev f r) (e : ∀ k, g (k + 1) = f k) : Ev g r := by
  obtain ⟨k0, hk⟩ := h
  refine ⟨k0 + 1, fun k hk1 => ?_⟩
  obtain ⟨k, rfl⟩ : ∃ m, k = m + 1 := ⟨k - 1, by omega⟩
  rw [e]
  exact hk k (by omega)
theorem Ev.now {α : Type} {g : Nat → Option α} {r : α} (e : ∀ k, g (k + 1) = some r) : Ev g r := by
  refine ⟨1, fun k hk1 => ?_⟩
  obtain ⟨k, rfl⟩ : ∃ m, k = m + 1 := ⟨k - 1, by omega⟩
  exact e k
theorem str_append (xs ys : List Int) : strOfNums xs ++ strOfNums ys = strOfNums (xs ++ ys) := by
  apply Go.WideShapes.bytes_inj
  simp [strOfNums, ByteArray.data_append]
theorem nulAt_of {c : Int} (h0 : 0 ≤ c) (h : c < 256) (hne : c ≠ 0) : nulAt c = false := by
  obtain ⟨n, rfl⟩ := Int.eq_ofNat_of_zero_le h0
  unfold nulAt
  rw [Int.toNat_natCast, beq_eq_false_iff_ne]
  intro e
  have := congrArg UInt8.toNat e
  simp at this
  omega
theorem nameOf_cons {c : Int} (r : List Int) (h : nulAt c = false) : nameOf (c :: r) = c :: nameOf r := by
  unfold nameOf
  rw [List.takeWhile_cons_of_pos (by simp [h])]
theorem nameOf_nul (r : List Int) : nameOf (0 :: r) = [] := by
  unfold nameOf
  rw [List.takeWhile_cons_of_neg (by decide)]
theorem rname_l (l : List Int) (hB : Byt l) (hl : l.length ≤ 1000000) : ∀ (d i k : Nat) (acc : List Int), i + d = l.length → d < k → acc.length + d ≤ 4611686018427387904 → zoneinforef12_Name.l0 k l (strOfNums acc) (i : Int) = some (strOfNums (acc ++ nameOf (l.drop i)), true) := by
  intro d
  induction d with
  | zero =>
    intro i k acc hi hk ha
    obtain ⟨k, rfl⟩ : ∃ m, k = m + 1 := ⟨k - 1, by omega⟩
    simp only [zoneinforef12_Name.l0]
    rw [if_neg (by omega), List.drop_eq_nil_of_le (by omega), show nameOf [] = [] from rfl, List.append_nil]
  | succ d ih =>
    intro i k acc hi hk ha
    obtain ⟨k, rfl⟩ : ∃ m, k = m + 1 := ⟨k - 1, by omega⟩
    simp only [zoneinforef12_Name.l0]
    rw [if_pos (by omega), if_pos (by omega), drop_rd l i (by omega)]
    by_cases h0 : rd l (i : Int) = 0
    · rw [if_pos h0, h0, nameOf_nul, List.append_nil]
    · rw [if_neg h0]
      have hb := hB.rd (i : Int)
      refine bnd rfl ?_
      rw [if_pos (by rw [strOfNums_size, strOfNums_size]; simp; omega), str_append, w64 (by omega) (by omega), show (i : Int) + 1 = ((i + 1 : Nat) : Int) by omega, ih (i + 1) k _ (by omega) (by omega) (by simp; omega), nameOf_cons _ (nulAt_of hb.1 hb.2 h0)]
      simp
theorem rname_f (l : List Int) (hB : Byt l) (hl : l.length ≤ 1000000) (i : Int) (k : Nat) (hk : l.length + 1 < k) : zoneinforef12_Name.f k l i = desigs_Name.f l i := by
  obtain ⟨k, rfl⟩ : ∃ m, k = m + 1 := ⟨k - 1, by omega⟩
  unfold zoneinforef12_Name.f desigs_Name.f
  simp only [zoneinforef12_Name.j0]
  by_cases h0 : i < 0
  · rw [if_pos h0, if_pos h0, if_pos (by decide)]
  rw [if_neg h0, if_neg h0]
  by_cases h1 : i ≥ (l.length : Int)
  · rw [decide_eq_true h1, if_pos (by decide), if_pos h1]
  rw [decide_eq_false h1, if_neg (by decide), if_neg h1, if_pos (by omega)]
  obtain ⟨n, rfl⟩ := Int.eq_ofNat_of_zero_le (show 0 ≤ i by omega)
  have h := rname_l l hB hl (l.length - n) n k [] (by omega) (by omega) (by simp; omega)
  rw [List.nil_append] at h
  rw [Int.toNat_natCast]
  exact h
theorem name_some (l : List Int) (hl : l.length ≤ 1000000) (i : Int) : ∃ s b, desigs_Name.f l i = some (s, b) := by
  unfold desigs_Name.f
  split
  · exact ⟨_, _, rfl⟩
  · split
    · exact ⟨_, _, rfl⟩
    · rw [if_pos (by omega)]; exact ⟨_, _, rfl⟩

/-! Build beside its reference -/
def key (l : List ByteArray) (n : Nat) : List UInt8 := (rdOf ByteArray.empty l (n : Int)).data.toList
structure Inv (l : List ByteArray) (n : Nat) (T : List Int) (M : List (List UInt8 × Int)) (I : List Int) : Prop where
  len : I.length = n
  at_ : ∀ j, j < n → metAt M (key l j) = some (rd I (j : Int))
  from_ : ∀ s v, metAt M s = some v → ∃ j, j < n ∧ key l j = s
  pos : ∀ j, j < n → 0 ≤ rd I (j : Int)
theorem rd_snoc (I : List Int) (v : Int) : rd (I ++ [v]) (I.length : Int) = v := by
  rw [rd_append_right _ _ _ (by omega), show (I.length : Int) - I.length = 0 by omega]
  rfl
theorem Inv.step_some {l : List ByteArray} {n : Nat} {T : List Int} {M : List (List UInt8 × Int)} {I : List Int} (h : Inv l n T M I) {v : Int} (hv : metAt M (key l n) = some v) : Inv l (n + 1) T M (I ++ [v]) ∧ 0 ≤ v := by
  obtain ⟨j0, hj0, e0⟩ := h.from_ _ _ hv
  have hv0 : 0 ≤ v := by
    have h1 := h.at_ j0 hj0
    rw [e0, hv] at h1
    rw [Option.some.inj h1]
    exact h.pos j0 hj0
  have hl := h.len
  refine ⟨⟨by simp [hl], fun j hj => ?_, fun s v' hs => ?_, fun j hj => ?_⟩, hv0⟩
  · by_cases e : j = n
    · subst e; rw [hv, ← hl, rd_snoc]
    · rw [rd_append_left _ _ _ (by omega) (by omega)]; exact h.at_ j (by omega)
  · obtain ⟨j, hj, e⟩ := h.from_ s v' hs
    exact ⟨j, by omega, e⟩
  · by_cases e : j = n
    · subst e; rw [← hl, rd_snoc]; exact hv0
    · rw [rd_append_left _ _ _ (by omega) (by omega)]; exact h.pos j (by omega)
theorem Inv.step_none {l : List ByteArray} {n : Nat} {T : List Int} {M : List (List UInt8 × Int)} {I : List Int} (h : Inv l n T M I) (hv : metAt M (key l n) = none) (T' : List Int) : Inv l (n + 1) T' ((key l n, (T.length : Int)) :: M) (I ++ [(T.length : Int)]) := by
  have hl := h.len
  refine ⟨by simp [hl], fun j hj => ?_, fun s v' hs => ?_, fun j hj => ?_⟩
  · rw [metAt_cons]
    by_cases e : j = n
    · subst e; rw [if_pos rfl, ← hl, rd_snoc]
    · have hj' := h.at_ j (by omega)
      rw [if_neg (fun x => by rw [x, hj'] at hv; cases hv), rd_append_left _ _ _ (by omega) (by omega)]
      exact hj'
  · rw [metAt_cons] at hs
    by_cases e : key l n = s
    · exact ⟨n, by omega, e⟩
    · rw [if_neg e] at hs
      obtain ⟨j, hj, e'⟩ := h.from_ s v' hs
      exact ⟨j, by omega, e'⟩
  · by_cases e : j = n
    · subst e; rw [← hl, rd_snoc]; omega
    · rw [rd_append_left _ _ _ (by omega) (by omega)]; exact h.pos j (by omega)
theorem toList_eq (l : List ByteArray) (i j : Nat) : ((rdOf ByteArray.empty l (i : Int)).toList = (rdOf ByteArray.empty l (j : Int)).toList) ↔ key l i = key l j := by
  rw [Go.Lib.toList_data, Go.Lib.toList_data]
  exact Iff.rfl
/-- The reference's search, where a place was found. -/
theorem rb_found (l : List ByteArray) (hl : l.length ≤ 60) (T I : List Int) (n : Nat) (hn : n < l.length) (hI : I.length = n) (v : Int) (hv : 0 ≤ v) (r : List Int × List Int) (hr : Ev (fun k => zoneinforef12_Build.l0 k l T (I ++ [v]) ((n + 1 : Nat) : Int)) r) :
    ∀ (d j : Nat), j + d = n → Ev (fun k => zoneinforef12_Build.l1 k l T I (n : Int) v (j : Int)) r := by
  intro d
  induction d with
  | zero =>
    intro j hj
    refine hr.succ (fun k => ?_)
    simp only [zoneinforef12_Build.l1]
    rw [if_neg (show ¬ (j : Int) < (n : Int) by omega), if_neg (show ¬ v < 0 by omega), if_pos (by omega), w64 (by omega) (by omega), show (n : Int) + 1 = ((n + 1 : Nat) : Int) by omega]
  | succ d ih =>
    intro j hj
    refine (ih (j + 1) (by omega)).succ (fun k => ?_)
    simp only [zoneinforef12_Build.l1]
    rw [if_pos (show (j : Int) < (n : Int) by omega), if_pos (by omega), if_pos (by omega), if_pos (by omega), if_pos (by omega), w64 (by omega) (by omega), show (j : Int) + 1 = ((j + 1 : Nat) : Int) by omega]
    split
    · rw [if_neg (show ¬ v < 0 by omega)]
    · rfl
theorem rb_scan (l : List ByteArray) (hl : l.length ≤ 60) (T I : List Int) (M : List (List UInt8 × Int)) (n : Nat) (hn : n < l.length) (hInv : Inv l n T M I) (v : Int) (hm : metAt M (key l n) = some v) (r : List Int × List Int) (hr : Ev (fun k => zoneinforef12_Build.l0 k l T (I ++ [v]) ((n + 1 : Nat) : Int)) r) :
    ∀ (d j : Nat), j + d = n → (∃ j0, j ≤ j0 ∧ j0 < n ∧ key l j0 = key l n) → Ev (fun k => zoneinforef12_Build.l1 k l T I (n : Int) (-1) (j : Int)) r := by
  have hI := hInv.len
  have hv0 := (hInv.step_some hm).2
  intro d
  induction d with
  | zero => intro j hj ⟨j0, h1, h2, _⟩; omega
  | succ d ih =>
    intro j hj hex
    have hj1 : wrap64 ((j : Int) + 1) = ((j + 1 : Nat) : Int) := by rw [w64 (by omega) (by omega)]; omega
    by_cases hk : key l j = key l n
    · have hv : rd I (j : Int) = v := by
        have h1 := hInv.at_ j (by omega)
        rw [hk, hm] at h1
        exact (Option.some.inj h1).symm
      refine (rb_found l hl T I n hn hI v hv0 r hr d (j + 1) (by omega)).succ (fun k => ?_)
      simp only [zoneinforef12_Build.l1]
      rw [if_pos (show (j : Int) < (n : Int) by omega), if_pos (by omega), if_pos (by omega), if_pos (by omega), if_pos (by omega), if_pos ((toList_eq l j n).2 hk), if_pos (by decide), if_pos (by omega), hv, hj1]
    · obtain ⟨j0, h1, h2, h3⟩ := hex
      have hne : j0 ≠ j := fun e => hk (by rw [← e]; exact h3)
      refine (ih (j + 1) (by omega) ⟨j0, by omega, h2, h3⟩).succ (fun k => ?_)
      simp only [zoneinforef12_Build.l1]
      rw [if_pos (show (j : Int) < (n : Int) by omega), if_pos (by omega), if_pos (by omega), if_pos (by omega), if_pos (by omega), if_neg (fun e => hk ((toList_eq l j n).1 e)), hj1]
theorem take_snoc (l : List Int) (j : Nat) (h : j < l.length) : l.take (j + 1) = l.take j ++ [rd l (j : Int)] := by
  rw [List.take_add_one, List.getElem?_eq_getElem h, rd_nat l j h]
  rfl
theorem rb_write (l : List ByteArray) (hl : l.length ≤ 60) (T I : List Int) (hT : T.length ≤ 1000000) (hI : I.length ≤ 1000) (n : Nat) (hn : n < l.length) (x : Int) (X : ByteArray) (hX : rdOf ByteArray.empty l (n : Int) = X) (hs : X.size ≤ 300) (r : List Int × List Int) (hr : Ev (fun k => zoneinforef12_Build.l0 k l (T ++ bytesOf X ++ [0]) (I ++ [x]) ((n + 1 : Nat) : Int)) r) :
    ∀ (d j : Nat), j + d = X.size → Ev (fun k => zoneinforef12_Build.l2 k l (T ++ (bytesOf X).take j) I (n : Int) x (j : Int)) r := by
  have hlen := bytesOf_length X
  intro d
  induction d with
  | zero =>
    intro j hj
    refine hr.succ (fun k => ?_)
    simp only [zoneinforef12_Build.l2]
    rw [List.take_of_length_le (by omega)]
    rw [if_pos (by omega), if_pos (by omega), hX, if_neg (by omega), if_pos (by rw [List.length_append]; omega), if_pos (by omega), w64 (by omega) (by omega), show (n : Int) + 1 = ((n + 1 : Nat) : Int) by omega]
  | succ d ih =>
    intro j hj
    refine (ih (j + 1) (by omega)).succ (fun k => ?_)
    simp only [zoneinforef12_Build.l2]
    rw [if_pos (by omega), if_pos (by omega), hX, if_pos (by omega), if_pos (by omega), if_pos (by rw [List.length_append, List.length_take]; omega), w64 (by omega) (by omega), show (j : Int) + 1 = ((j + 1 : Nat) : Int) by omega, take_snoc (bytesOf X) j (by omega), rd_bytesOf, List.append_assoc]
theorem rb_miss (l : List ByteArray) (hl : l.length ≤ 60) (T I : List Int) (M : List (List UInt8 × Int)) (hT : T.length ≤ 1000000) (n : Nat) (hn : n < l.length) (hInv : Inv l n T M I) (hm : metAt M (key l n) = none) (hs : (rdOf ByteArray.empty l (n : Int)).size ≤ 300) (r : List Int × List Int) (hr : Ev (fun k => zoneinforef12_Build.l0 k l (T ++ bytesOf (rdOf ByteArray.empty l (n : Int)) ++ [0]) (I ++ [(T.length : Int)]) ((n + 1 : Nat) : Int)) r) :
    ∀ (d j : Nat), j + d = n → Ev (fun k => zoneinforef12_Build.l1 k l T I (n : Int) (-1) (j : Int)) r := by
  have hI := hInv.len
  intro d
  induction d with
  | zero =>
    intro j hj
    have h := rb_write l hl T I hT (by omega) n hn (T.length : Int) _ rfl hs r hr (rdOf ByteArray.empty l (n : Int)).size 0 (by omega)
    rw [List.take_zero, List.append_nil] at h
    refine h.succ (fun k => ?_)
    simp only [zoneinforef12_Build.l1]
    rw [if_neg (show ¬ (j : Int) < (n : Int) by omega), if_pos (by decide)]
    rfl
  | succ d ih =>
    intro j hj
    have hk : ¬ key l j = key l n := fun e => by
      have h1 := hInv.at_ j (by omega)
      rw [e, hm] at h1
      cases h1
    refine (ih (j + 1) (by omega)).succ (fun k => ?_)
    simp only [zoneinforef12_Build.l1]
    rw [if_pos (show (j : Int) < (n : Int) by omega), if_pos (by omega), if_pos (by omega), if_pos (by omega), if_pos (by omega), if_neg (fun e => hk ((toList_eq l j n).1 e)), w64 (by omega) (by omega), show (j : Int) + 1 = ((j + 1 : Nat) : Int) by omega]
theorem rb_all (l : List ByteArray) (hl : l.length ≤ 60) (hs : ∀ x ∈ l, x.size ≤ 300) {T' : List Int} {M' : List (List UInt8 × Int)} {I' : List Int} (hE : bfirst l l.length = some (T', M', I')) :
    ∀ (d n : Nat), n + d = l.length → ∀ T M I, bfirst l n = some (T, M, I) → Inv l n T M I → Ev (fun k => zoneinforef12_Build.l0 k l T I (n : Int)) (if T'.length = 0 then [0] else T', I') := by
  intro d
  induction d with
  | zero =>
    intro n hn T M I e hInv
    obtain rfl : n = l.length := by omega
    rw [e] at hE
    simp only [Option.some.injEq, Prod.mk.injEq] at hE
    obtain ⟨rfl, rfl, rfl⟩ := hE
    refine Ev.now (fun k => ?_)
    simp only [zoneinforef12_Build.l0]
    rw [if_neg (by omega)]
    by_cases h0 : T.length = 0
    · rw [if_pos (by omega), if_pos (by omega), if_pos h0, List.length_eq_zero_iff.1 h0, List.nil_append]
    · rw [if_neg (by omega), if_neg h0]
  | succ d ih =>
    intro n hn T M I e hInv
    obtain ⟨T0, M0, I0, e0, hT, hI⟩ := bfirst_ok l hs (by omega) n (by omega)
    rw [e] at e0
    simp only [Option.some.injEq, Prod.mk.injEq] at e0
    obtain ⟨rfl, rfl, rfl⟩ := e0
    have hX := hs _ (rdOf_mem l n (by omega))
    have hB : bfirst l (n + 1) = bst1 (T, M, I) (rdOf ByteArray.empty l (n : Int)) := by rw [bfirst, e, Option.bind_some]
    unfold bst1 at hB
    rw [if_pos ⟨by omega, by simp only; omega, by simp only; omega⟩] at hB
    dsimp only at hB
    have hstep : Ev (fun k => zoneinforef12_Build.l1 k l T I (n : Int) (-1) ((0 : Nat) : Int)) (if T'.length = 0 then [0] else T', I') := by
      cases hm : metAt M (key l n) with
      | some v =>
        rw [show metAt M (rdOf ByteArray.empty l (n : Int)).data.toList = some v from hm] at hB
        obtain ⟨j0, hj0, ej0⟩ := hInv.from_ _ _ hm
        exact rb_scan l hl T I M n (by omega) hInv v hm _ (ih (n + 1) (by omega) T M (I ++ [v]) hB (hInv.step_some hm).1) n 0 (by omega) ⟨j0, by omega, hj0, ej0⟩
      | none =>
        rw [show metAt M (rdOf ByteArray.empty l (n : Int)).data.toList = none from hm] at hB
        exact rb_miss l hl T I M (by omega) n (by omega) hInv hm hX _ (ih (n + 1) (by omega) _ _ _ hB (hInv.step_none hm _)) n 0 (by omega)
    refine hstep.succ (fun k => ?_)
    simp only [zoneinforef12_Build.l0]
    rw [if_pos (by omega)]
    rfl
theorem rbuild_f (l : List ByteArray) (hl : l.length ≤ 60) (hs : ∀ x ∈ l, x.size ≤ 300) {T' : List Int} {M' : List (List UInt8 × Int)} {I' : List Int} (hE : bfirst l l.length = some (T', M', I')) : Ev (fun k => zoneinforef12_Build.f k l) (if T'.length = 0 then [0] else T', I') :=
  rb_all l hl hs hE l.length 0 (by omega) [] [] [] rfl ⟨rfl, fun j hj => (by omega), fun s v h => (by cases h), fun j hj => (by omega)⟩
theorem same_loop (I : List Int) (hl : I.length ≤ 1000) : ∀ (d i k : Nat), i + d = I.length → d < k → zoneinfolaw12_DesigsMatchReference.l0 k I I (i : Int) = some true := by
  intro d
  induction d with
  | zero =>
    intro i k hi hk
    obtain ⟨k, rfl⟩ : ∃ m, k = m + 1 := ⟨k - 1, by omega⟩
    simp only [zoneinfolaw12_DesigsMatchReference.l0]
    rw [if_neg (by omega)]
  | succ d ih =>
    intro i k hi hk
    obtain ⟨k, rfl⟩ : ∃ m, k = m + 1 := ⟨k - 1, by omega⟩
    simp only [zoneinfolaw12_DesigsMatchReference.l0]
    rw [if_pos (by omega), if_pos (by omega), if_pos (by omega), if_pos trivial, w64 (by omega) (by omega), show (i : Int) + 1 = ((i + 1 : Nat) : Int) by omega]
    exact ih (i + 1) k (by omega) (by omega)
theorem j2_ok (names : List ByteArray) (hn : names.length ≤ 60) : ∃ k0, ∀ k, k0 ≤ k → zoneinfolaw12_DesigsMatchReference.j2 k names = some true := by
  cases hp : plainOk names with
  | false =>
    refine ⟨names.length * 305 + 2, fun k hk => ?_⟩
    obtain ⟨k, rfl⟩ : ∃ m, k = m + 1 := ⟨k - 1, by omega⟩
    simp only [zoneinfolaw12_DesigsMatchReference.j2]
    refine bnd (plain_f names (by omega) k (Nat.le_of_succ_le_succ hk)) ?_
    rw [hp, if_neg (by decide)]
  | true =>
    obtain ⟨_, hs⟩ := plain_size hp
    obtain ⟨T, M, I, e, hT, hI⟩ := bfirst_ok names hs (by omega) names.length (Nat.le_refl _)
    obtain ⟨k0, hk0⟩ := rbuild_f names hn hs e
    have hTl : (if T.length = 0 then [0] else T).length ≤ 1000000 := by
      split
      · simp
      · omega
    generalize hc : (1000010 : Nat) = c
    refine ⟨k0 + names.length * 305 + c, fun k hk => ?_⟩
    obtain ⟨k, rfl⟩ : ∃ m, k = m + 1 := ⟨k - 1, by omega⟩
    simp only [zoneinfolaw12_DesigsMatchReference.j2]
    refine bnd (plain_f names (by omega) k (by omega)) ?_
    rw [hp, if_pos rfl]
    refine bnd (build_f names e) ?_
    refine bnd (hk0 k (by omega)) ?_
    dsimp only
    refine bnd (same01_f _ _ (by omega) k (by omega)) ?_
    rw [if_pos (by simp)]
    obtain ⟨k, rfl⟩ : ∃ m, k = m + 1 := ⟨k - 1, by omega⟩
    simp only [zoneinfolaw12_DesigsMatchReference.j3]
    rw [if_neg (by simp)]
    exact same_loop I (by omega) I.length 0 k (by omega) (by omega)
theorem DesigsMatchReference : Opn.DesigsMatchReference := by
  intro l i names w0 w1 w2
  have hB : Byt l := Byt.of w0.2
  have hT : ∀ k, zoneinfolaw12_DesigsMatchReference.j0 (k + 50) l i names true = some true := by
    intro k
    simp only [zoneinfolaw12_DesigsMatchReference.j0]
    rw [if_pos (by decide)]
    exact bnd (awake12 _ (by omega)) rfl
  by_cases hn : (names.length : Int) > 60
  · refine ⟨0 + 50, ?_⟩
    unfold zoneinfolaw12_DesigsMatchReference.f
    refine bnd (awake12 _ (by omega)) ?_
    rw [if_pos rfl]
    split
    · exact hT 0
    · rw [decide_eq_true hn]; exact hT 0
  obtain ⟨k0, hk0⟩ := j2_ok names (by omega)
  refine ⟨k0 + 2000 + 50, ?_⟩
  unfold zoneinfolaw12_DesigsMatchReference.f
  refine bnd (awake12 _ (by omega)) ?_
  rw [if_pos rfl]
  by_cases hl : (l.length : Int) > 1000
  · rw [if_pos hl]; exact hT _
  rw [if_neg hl, decide_eq_false hn]
  generalize hK : k0 + 2000 + 50 = K
  obtain ⟨k, rfl⟩ : ∃ m, K = m + 1 := ⟨K - 1, by omega⟩
  simp only [zoneinfolaw12_DesigsMatchReference.j0]
  rw [if_neg (by decide)]
  refine bnd (valid_f l (by omega) k (by omega)) ?_
  refine bnd (rvalid_f l (by omega) k (by omega)) ?_
  rw [if_neg (by simp)]
  refine bnd (bad_f l (by omega) k (by omega)) ?_
  refine bnd (rbad_f l (by omega) k (by omega)) ?_
  obtain ⟨k, rfl⟩ : ∃ m, k = m + 1 := ⟨k - 1, by omega⟩
  simp only [zoneinfolaw12_DesigsMatchReference.j1]
  rw [if_neg (by simp)]
  refine bnd (rvalid_f l (by omega) k (by omega)) ?_
  have h2 := hk0 k (by omega)
  split
  · obtain ⟨s, b, e⟩ := name_some l (by omega) i
    refine bnd e ?_
    refine bnd ((rname_f l hB (by omega) i k (by omega)).trans e) ?_
    rw [if_pos rfl, if_neg (by simp)]
    exact h2
  · exact h2
end Go.Proofs.Ytchlggnbgabddaa.Pure
