/- Indicators as bytes: what indicators and its reference answer, in plain lists. -/
import Derived.Test.YtbiglbdanppjpaaDoorWWords
import Derived.Test.YtbiglbdanppjpaaDoorWMore
import Derived.Test.YtbiglbdanppjpaaDoorOwn
import Derived.Test.YtbiglbdanppjpaaDoorGx1
import Derived.Test.YtbiglbdanppjpaaDoorGx2
import Derived.Test.YtbiglbdanppjpaaDoorGx3
import Derived.Test.YtbiglbdanppjpaaDoorBase
set_option linter.unusedVariables false
set_option linter.unusedSimpArgs false
namespace Go.Proofs.YtbiglbdanppjpaaDoor.Pure
open Go.RowKit Go.Proofs.YtbiglbdanppjpaaDoor.G Go.Proofs.YtbiglbdanppjpaaDoorW.PrintWords Go.Proofs.YtbiglbdanppjpaaDoorW.PrintLast Go.Proofs.YtbiglbdanppjpaaDoorW.PrintMore

theorem same01_loop (a b : List Int) (hab : a.length = b.length) (hl : a.length ≤ 4611686018427387904) : ∀ (d i k : Nat), i + d = a.length → d < k →
    zoneinforef01_Same.l0 k a b (i : Int) = some (decide (a.drop i = b.drop i)) := by
  intro d
  induction d with
  | zero =>
    intro i k hi hk
    obtain ⟨k, rfl⟩ : ∃ m, k = m + 1 := ⟨k - 1, by omega⟩
    simp only [zoneinforef01_Same.l0]
    rw [if_neg (by omega)]
    simp [List.drop_eq_nil_of_le (show a.length ≤ i by omega), List.drop_eq_nil_of_le (show b.length ≤ i by omega)]
  | succ d ih =>
    intro i k hi hk
    obtain ⟨k, rfl⟩ : ∃ m, k = m + 1 := ⟨k - 1, by omega⟩
    simp only [zoneinforef01_Same.l0]
    rw [if_pos (by omega), if_pos (by omega), if_pos (by omega), drop_rd a i (by omega), drop_rd b i (by omega)]
    by_cases h : rd a (i : Int) = rd b (i : Int)
    · rw [if_pos h, w64 (by omega) (by omega), show (i : Int) + 1 = ((i + 1 : Nat) : Int) by omega, ih (i + 1) k (by omega) (by omega), h]
      simp
    · rw [if_neg h]; simp [h]
theorem same01_f (a b : List Int) (hl : a.length ≤ 4611686018427387904) (k : Nat) (hk : a.length < k) : zoneinforef01_Same.f k a b = some (decide (a = b)) := by
  unfold zoneinforef01_Same.f
  by_cases h : a.length = b.length
  · rw [if_pos (by omega)]
    have := same01_loop a b h hl a.length 0 k (by omega) hk
    simpa using this
  · rw [if_neg (by omega)]
    have : ¬ a = b := fun e => h (by rw [e])
    simp [this]
theorem rdB_nat (l : List Bool) (i : Nat) (h : i < l.length) : rdOf false l (i : Int) = l[i] := by
  simp [rdOf, List.getD, h]
theorem drop_rdB (l : List Bool) (i : Nat) (h : i < l.length) : l.drop i = rdOf false l (i : Int) :: l.drop (i + 1) := by
  rw [rdB_nat l i h]; exact List.drop_eq_getElem_cons h
theorem same18_loop (a b : List Bool) (hab : a.length = b.length) (hl : a.length ≤ 1000000) : ∀ (d i k : Nat), i + d = a.length → d < k →
    zoneinforef18_Same.l0 k a b (i : Int) = some (decide (a.drop i = b.drop i)) := by
  intro d
  induction d with
  | zero =>
    intro i k hi hk
    obtain ⟨k, rfl⟩ : ∃ j, k = j + 1 := ⟨k - 1, by omega⟩
    rw [zoneinforef18_Same.l0, if_neg (by omega), List.drop_of_length_le (by omega), List.drop_of_length_le (by omega)]
    simp
  | succ d ih =>
    intro i k hi hk
    obtain ⟨k, rfl⟩ : ∃ j, k = j + 1 := ⟨k - 1, by omega⟩
    rw [zoneinforef18_Same.l0, if_pos (by omega), if_pos (by omega), if_pos (by omega), drop_rdB a i (by omega), drop_rdB b i (by omega)]
    by_cases h : rdOf false a (i : Int) = rdOf false b (i : Int)
    · rw [if_neg (by simp [h]), w64 (by omega) (by omega), show (i : Int) + 1 = ((i + 1 : Nat) : Int) by omega, ih (i + 1) k (by omega) (by omega), h]
      simp
    · rw [if_pos (by simp [h])]; simp [h]
theorem same18_f (a b : List Bool) (hl : a.length ≤ 1000000) (k : Nat) (hk : a.length < k) : zoneinforef18_Same.f k a b = some (decide (a = b)) := by
  unfold zoneinforef18_Same.f
  by_cases h : a.length = b.length
  · rw [if_pos (by omega)]
    have := same18_loop a b h hl a.length 0 k (by omega) hk
    simpa using this
  · rw [if_neg (by omega)]
    have : ¬ a = b := fun e => h (by rw [e])
    simp [this]
def okB (b : List Int) : Bool := b.all (fun c => decide (c ≤ 1))
def boolsOf (b : List Int) : List Bool := b.map (fun c => c == 1)
def decB (out : List Bool) (b : List Int) : List Bool × Bool := if okB b = true then (out ++ boolsOf b, true) else ([], false)
theorem decB_cons (out : List Bool) (c : Int) (b : List Int) (h : c ≤ 1) : decB out (c :: b) = decB (out ++ [c == 1]) b := by
  have e : okB (c :: b) = okB b := by simp [okB, h]
  unfold decB
  rw [e]
  by_cases ho : okB b = true
  · rw [if_pos ho, if_pos ho]; simp [boolsOf]
  · rw [if_neg ho, if_neg ho]
theorem decB_bad (out : List Bool) (c : Int) (b : List Int) (h : ¬ c ≤ 1) : decB out (c :: b) = ([], false) := by
  have e : okB (c :: b) = false := by simp [okB, h]
  unfold decB; rw [e]; rfl
theorem flag_rd (c : Int) (h0 : 0 ≤ c) (h : c < 2) : rdOf false glens c = (c == 1) := by
  have : c = 0 ∨ c = 1 := by omega
  rcases this with rfl | rfl <;> rfl
theorem idec_loop (b : List Int) (hb : Byt b) (hl : b.length ≤ 1000000) : ∀ (d i k : Nat) (out : List Bool), i + d = b.length → d < k → out.length + d ≤ 1000000 →
    indicators_Decode.l0 k out b (b.length : Int) (i : Int) = some (decB out (b.drop i)) := by
  intro d
  induction d with
  | zero =>
    intro i k out hi hk ho
    obtain ⟨k, rfl⟩ : ∃ j, k = j + 1 := ⟨k - 1, by omega⟩
    rw [indicators_Decode.l0, if_neg (by omega), List.drop_of_length_le (by omega)]
    simp [decB, okB, boolsOf]
  | succ d ih =>
    intro i k out hi hk ho
    obtain ⟨k, rfl⟩ : ∃ j, k = j + 1 := ⟨k - 1, by omega⟩
    have hr := hb.rd (i : Int)
    rw [indicators_Decode.l0, if_pos (by omega), if_pos (by omega), if_pos (by omega), w64 (x := rd b (i : Int)) (by omega) (by omega), drop_rd b i (by omega)]
    by_cases h : rd b (i : Int) ≥ 2
    · rw [if_pos h, decB_bad _ _ _ (by omega)]
    · rw [if_neg h, if_pos hr.1, if_pos (by omega), if_pos (by omega), flag_rd _ hr.1 (by omega), w64 (by omega) (by omega), show (i : Int) + 1 = ((i + 1 : Nat) : Int) by omega, ih (i + 1) k _ (by omega) (by omega) (by simp; omega), decB_cons _ _ _ (by omega)]
theorem idec_f (b : List Int) (hb : Byt b) (hl : b.length ≤ 100000) (k : Nat) (hk : b.length < k) : indicators_Decode.f k b = some (decB [] b) := by
  unfold indicators_Decode.f
  have := idec_loop b hb (by omega) b.length 0 k [] (by omega) hk (by simp; omega)
  simpa using this
theorem ridec_loop (b : List Int) (hb : Byt b) (hl : b.length ≤ 1000000) : ∀ (d i k : Nat) (out : List Bool), i + d = b.length → d < k → out.length + d ≤ 1000000 →
    zoneinforef18_Decode.l0 k b out (i : Int) = some (decB out (b.drop i)) := by
  intro d
  induction d with
  | zero =>
    intro i k out hi hk ho
    obtain ⟨k, rfl⟩ : ∃ j, k = j + 1 := ⟨k - 1, by omega⟩
    rw [zoneinforef18_Decode.l0, if_neg (by omega), List.drop_of_length_le (by omega)]
    simp [decB, okB, boolsOf]
  | succ d ih =>
    intro i k out hi hk ho
    obtain ⟨k, rfl⟩ : ∃ j, k = j + 1 := ⟨k - 1, by omega⟩
    have hr := hb.rd (i : Int)
    rw [zoneinforef18_Decode.l0, if_pos (by omega), if_pos (by omega), drop_rd b i (by omega)]
    by_cases h : rd b (i : Int) > 1
    · rw [if_pos h, decB_bad _ _ _ (by omega)]
    · rw [if_neg h, if_pos (by omega), w64 (by omega) (by omega), show (i : Int) + 1 = ((i + 1 : Nat) : Int) by omega, ih (i + 1) k _ (by omega) (by omega) (by simp; omega), decB_cons _ _ _ (by omega)]
theorem ridec_f (b : List Int) (hb : Byt b) (hl : b.length ≤ 100000) (k : Nat) (hk : b.length < k) : zoneinforef18_Decode.f k b = some (decB [] b) := by
  unfold zoneinforef18_Decode.f
  have := ridec_loop b hb (by omega) b.length 0 k [] (by omega) hk (by simp; omega)
  simpa using this
def bit (x : Bool) : Int := if x = true then 1 else 0
def encB (l : List Bool) : List Int := l.map bit
theorem encB_length (l : List Bool) : (encB l).length = l.length := by simp [encB]
theorem encB_append (a b : List Bool) : encB (a ++ b) = encB a ++ encB b := by simp [encB]
theorem encB_byt (l : List Bool) : Byt (encB l) := by
  intro x hx
  obtain ⟨y, -, rfl⟩ := List.mem_map.1 hx
  cases y <;> decide
theorem encB_inj (a b : List Bool) : encB a = encB b ↔ a = b := by
  unfold encB
  constructor
  · intro h
    exact (List.map_inj_right (fun x y hxy => by cases x <;> cases y <;> first | rfl | (simp [bit] at hxy))).1 h
  · rintro rfl; rfl
theorem ienc_loop (l : List Bool) (hl : l.length ≤ 1000000) : ∀ (d i k : Nat) (x : List Int), i + d = l.length → d < k → x = encB (l.take i) ++ List.replicate d 0 →
    indicators_Encode.l0 k x l (l.length : Int) (i : Int) = some (encB l) := by
  intro d
  induction d with
  | zero =>
    intro i k x hi hk hx
    obtain ⟨k, rfl⟩ : ∃ j, k = j + 1 := ⟨k - 1, by omega⟩
    rw [indicators_Encode.l0, if_neg (by omega), hx, List.take_of_length_le (by omega)]
    simp
  | succ d ih =>
    intro i k x hi hk hx
    obtain ⟨k, rfl⟩ : ∃ j, k = j + 1 := ⟨k - 1, by omega⟩
    have hle : (encB (l.take i)).length = i := by rw [encB_length, List.length_take]; omega
    have hxl : x.length = l.length := by rw [hx, List.length_append, hle, List.length_replicate]; omega
    have ht : encB (l.take (i + 1)) = encB (l.take i) ++ [bit (rdOf false l (i : Int))] := by
      rw [List.take_add, drop_rdB l i (by omega), encB_append]
      simp [encB]
    have e1 : (i : Int) + 1 = ((i + 1 : Nat) : Int) := by omega
    rw [indicators_Encode.l0, if_pos (by omega), if_pos (by omega), if_pos (by omega), w64 (by omega) (by omega), e1]
    by_cases h : rdOf false l (i : Int) = true
    · rw [if_pos h, if_pos (by omega), Int.toNat_natCast]
      refine ih (i + 1) k _ (by omega) (by omega) ?_
      rw [ht, h, hx, List.set_append_right _ _ (by omega), hle, Nat.sub_self, List.replicate_succ]
      simp [bit]
    · rw [if_neg h]
      refine ih (i + 1) k _ (by omega) (by omega) ?_
      rw [ht, Bool.eq_false_iff.2 h, hx, List.replicate_succ]
      simp [bit]
theorem ienc_f (l : List Bool) (hl : l.length ≤ 100000) (k : Nat) (hk : l.length < k) : indicators_Encode.f k l = some (encB l) := by
  unfold indicators_Encode.f
  rw [if_pos (by omega), if_pos (by omega), Int.toNat_natCast]
  exact ienc_loop l (by omega) l.length 0 k _ (by omega) hk (by simp [encB])
theorem rienc_loop (l : List Bool) (hl : l.length ≤ 1000000) : ∀ (d i k : Nat) (out : List Int), i + d = l.length → d < k → out.length + d ≤ 1000000 →
    zoneinforef18_Encode.l0 k l out (i : Int) = some (out ++ encB (l.drop i)) := by
  intro d
  induction d with
  | zero =>
    intro i k out hi hk ho
    obtain ⟨k, rfl⟩ : ∃ j, k = j + 1 := ⟨k - 1, by omega⟩
    rw [zoneinforef18_Encode.l0, if_neg (by omega), List.drop_of_length_le (by omega)]
    simp [encB]
  | succ d ih =>
    intro i k out hi hk ho
    obtain ⟨k, rfl⟩ : ∃ j, k = j + 1 := ⟨k - 1, by omega⟩
    have e1 : (i : Int) + 1 = ((i + 1 : Nat) : Int) := by omega
    rw [zoneinforef18_Encode.l0, if_pos (by omega), if_pos (by omega), w64 (by omega) (by omega), e1, drop_rdB l i (by omega)]
    by_cases h : rdOf false l (i : Int) = true
    · rw [if_pos h, if_pos (by omega), ih (i + 1) k _ (by omega) (by omega) (by simp; omega), h]; simp [encB, bit]
    · rw [if_neg h, if_pos (by omega), ih (i + 1) k _ (by omega) (by omega) (by simp; omega), Bool.eq_false_iff.2 h]; simp [encB, bit]
theorem rienc_f (l : List Bool) (hl : l.length ≤ 100000) (k : Nat) (hk : l.length < k) : zoneinforef18_Encode.f k l = some (encB l) := by
  unfold zoneinforef18_Encode.f
  have := rienc_loop l (by omega) l.length 0 k [] (by omega) hk (by simp; omega)
  simpa using this
def consB : List Bool → List Bool → Bool
  | _, [] => true
  | [], u :: us => !u && consB [] us
  | s :: ss, u :: us => (!u || s) && consB ss us
theorem icons_loop (s u : List Bool) (hl : u.length ≤ 1000000) : ∀ (d i k : Nat), i + d = u.length → d < k →
    indicators_Consistent.l0 k s u (u.length : Int) (i : Int) = some (consB (s.drop i) (u.drop i)) := by
  intro d
  induction d with
  | zero =>
    intro i k hi hk
    obtain ⟨k, rfl⟩ : ∃ j, k = j + 1 := ⟨k - 1, by omega⟩
    rw [indicators_Consistent.l0, if_neg (by omega), List.drop_of_length_le (l := u) (by omega)]
    simp [consB]
  | succ d ih =>
    intro i k hi hk
    obtain ⟨k, rfl⟩ : ∃ j, k = j + 1 := ⟨k - 1, by omega⟩
    have e1 : (i : Int) + 1 = ((i + 1 : Nat) : Int) := by omega
    rw [indicators_Consistent.l0, if_pos (by omega), if_pos (by omega), if_pos (by omega), w64 (by omega) (by omega), e1, drop_rdB u i (by omega), ih (i + 1) k (by omega) (by omega)]
    rcases Nat.lt_or_ge i s.length with hs | hs
    · rw [drop_rdB s i hs]
      cases hu : rdOf false u (i : Int)
      · simp [consB]
      · rw [if_pos rfl, if_neg (by omega), if_pos (by omega)]
        cases rdOf false s (i : Int) <;> simp [consB]
    · rw [List.drop_of_length_le hs, List.drop_of_length_le (show s.length ≤ i + 1 by omega)]
      cases hu : rdOf false u (i : Int)
      · simp [consB]
      · rw [if_pos rfl, if_pos (by omega)]; simp [consB]
theorem icons_f (s u : List Bool) (hl : u.length ≤ 100000) (k : Nat) (hk : u.length < k) : indicators_Consistent.f k s u = some (consB s u) := by
  unfold indicators_Consistent.f
  have := icons_loop s u (by omega) u.length 0 k (by omega) hk
  simpa using this
theorem ricons_loop (s u : List Bool) (hl : u.length ≤ 1000000) : ∀ (d i k : Nat), i + d = u.length → d < k →
    zoneinforef18_Consistent.l0 k s u (i : Int) = some (consB (s.drop i) (u.drop i)) := by
  intro d
  induction d with
  | zero =>
    intro i k hi hk
    obtain ⟨k, rfl⟩ : ∃ j, k = j + 1 := ⟨k - 1, by omega⟩
    rw [zoneinforef18_Consistent.l0, if_neg (by omega), List.drop_of_length_le (l := u) (by omega)]
    simp [consB]
  | succ d ih =>
    intro i k hi hk
    obtain ⟨k, rfl⟩ : ∃ j, k = j + 1 := ⟨k - 1, by omega⟩
    have e1 : (i : Int) + 1 = ((i + 1 : Nat) : Int) := by omega
    rw [zoneinforef18_Consistent.l0, if_pos (by omega), w64 (by omega) (by omega), e1, drop_rdB u i (by omega), ih (i + 1) k (by omega) (by omega)]
    rcases Nat.lt_or_ge i s.length with hs | hs
    · rw [drop_rdB s i hs, if_pos (by omega), if_pos (by omega)]
      cases hu : rdOf false u (i : Int)
      · simp [consB]
      · cases rdOf false s (i : Int) <;> simp [consB]
    · rw [List.drop_of_length_le hs, List.drop_of_length_le (show s.length ≤ i + 1 by omega), if_neg (by omega), if_pos (by omega)]
      cases hu : rdOf false u (i : Int) <;> simp [consB]
theorem ricons_f (s u : List Bool) (hl : u.length ≤ 100000) (k : Nat) (hk : u.length < k) : zoneinforef18_Consistent.f k s u = some (consB s u) := by
  unfold zoneinforef18_Consistent.f
  have := ricons_loop s u (by omega) u.length 0 k (by omega) hk
  simpa using this
theorem awake18 (k : Nat) (hk : 60 ≤ k) : zoneinfolaw18_awake.f k = some true :=
  at_rounds (fun k => zoneinfolaw18_awake.mono k) hk (by decide +kernel)
end Go.Proofs.YtbiglbdanppjpaaDoor.Pure
