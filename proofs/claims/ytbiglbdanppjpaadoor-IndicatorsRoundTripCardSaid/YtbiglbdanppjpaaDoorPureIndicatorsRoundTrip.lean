/- Indicators to bytes and back; a byte beyond 1 is refused: the plain law behind the walk. No condition. -/
import Derived.Test.YtbiglbdanppjpaaDoorWWords
import Derived.Test.YtbiglbdanppjpaaDoorWMore
import Derived.Test.YtbiglbdanppjpaaDoorOwn
import Derived.Test.YtbiglbdanppjpaaDoorGx4
import Derived.Test.YtbiglbdanppjpaaDoorBase
import Derived.Test.YtbiglbdanppjpaaDoorInd
set_option linter.unusedVariables false
set_option linter.unusedSimpArgs false
namespace Go.Proofs.YtbiglbdanppjpaaDoor.Pure
open Go.RowKit Go.Proofs.YtbiglbdanppjpaaDoor.G Go.Proofs.YtbiglbdanppjpaaDoorW.PrintWords Go.Proofs.YtbiglbdanppjpaaDoorW.PrintLast Go.Proofs.YtbiglbdanppjpaaDoorW.PrintMore

theorem ok_encB (l : List Bool) : okB (encB l) = true := by
  unfold okB encB
  rw [List.all_eq_true]
  intro x hx
  obtain ⟨y, -, rfl⟩ := List.mem_map.1 hx
  cases y <;> decide
theorem bools_encB (l : List Bool) : boolsOf (encB l) = l := by
  induction l with
  | nil => rfl
  | cons x l ih =>
    have : boolsOf (encB (x :: l)) = (bit x == 1) :: boolsOf (encB l) := rfl
    rw [this, ih]
    cases x <;> rfl
theorem enc_bools (b : List Int) (hb : Byt b) (h : okB b = true) : encB (boolsOf b) = b := by
  induction b with
  | nil => rfl
  | cons c b ih =>
    have h1 : c ≤ 1 := by
      unfold okB at h; rw [List.all_eq_true] at h
      simpa using h c (by simp)
    have h2 : okB b = true := by
      unfold okB at *; rw [List.all_eq_true] at *
      exact fun x hx => h x (List.mem_cons_of_mem _ hx)
    have h3 := (hb c (by simp)).1
    have e : encB (boolsOf (c :: b)) = bit (c == 1) :: encB (boolsOf b) := rfl
    rw [e, ih (fun x hx => hb x (List.mem_cons_of_mem _ hx)) h2]
    have : c = 0 ∨ c = 1 := by omega
    rcases this with rfl | rfl <;> rfl
theorem ok_set (l : List Int) (h : okB l = true) (j : Nat) (c : Int) (hj : j < l.length) : okB (l.set j c) = decide (c ≤ 1) := by
  unfold okB at *
  rw [List.all_eq_true] at h
  by_cases hc : c ≤ 1
  · rw [decide_eq_true hc, List.all_eq_true]
    intro x hx
    rcases List.mem_or_eq_of_mem_set hx with hm | rfl
    · exact h x hm
    · exact decide_eq_true hc
  · rw [decide_eq_false hc]
    apply Bool.eq_false_iff.2
    intro ha
    rw [List.all_eq_true] at ha
    have := ha c (List.mem_set hj c)
    exact hc (of_decide_eq_true this)
theorem IndicatorsRoundTrip : zoneinfolaw18_IndicatorsRoundTrip.Pure := by
  intro l a c _ _ ha hc
  have ha := wf_u16 ha
  have hc := wf_u8 hc
  refine ⟨3000, ?_⟩
  unfold zoneinfolaw18_IndicatorsRoundTrip.f
  refine bnd (awake18 _ (by omega)) ?_
  rw [if_pos rfl]
  by_cases h2 : (l.length : Int) > 1000
  · rw [decide_eq_true h2, zoneinfolaw18_IndicatorsRoundTrip.j0, if_pos rfl]
    exact bnd (awake18 _ (by omega)) rfl
  rw [decide_eq_false h2, zoneinfolaw18_IndicatorsRoundTrip.j0, if_neg (by decide)]
  have le := encB_length l
  refine bnd (ienc_f l (by omega) _ (by omega)) ?_
  refine bnd (idec_f _ (encB_byt l) (by omega) _ (by omega)) ?_
  have hd : decB [] (encB l) = (l, true) := by
    unfold decB; rw [if_pos (ok_encB l), bools_encB, List.nil_append]
  rw [hd, if_pos (by omega), if_pos rfl]
  refine bnd (same18_f l l (by omega) _ (by omega)) ?_
  rw [decide_eq_true rfl, zoneinfolaw18_IndicatorsRoundTrip.j1, if_neg (by decide)]
  by_cases h0 : l.length = 0
  · rw [if_pos (by omega)]
  rw [if_neg (by omega)]
  have hp : (0 : Int) < ((encB l).length : Int) := by omega
  obtain ⟨j, hj⟩ : ∃ j : Nat, Int.tmod (wrap64 a) ((encB l).length : Int) = (j : Int) := by
    refine ⟨(a % ((encB l).length : Int)).toNat, ?_⟩
    rw [w64 (by omega) (by omega), Int.tmod_eq_emod_of_nonneg ha.1]
    have := Int.emod_nonneg a (show ((encB l).length : Int) ≠ 0 by omega)
    omega
  have hjl : j < (encB l).length := by
    have h := Int.emod_lt_of_pos a hp
    rw [w64 (by omega) (by omega), Int.tmod_eq_emod_of_nonneg ha.1] at hj
    omega
  rw [hj, if_pos (by omega), if_pos (by omega), Int.toNat_natCast]
  refine bnd rfl ?_
  have hsl : ((encB l).set j c).length = l.length := by rw [List.length_set, le]
  have hsb : Byt ((encB l).set j c) := fun x hx => (List.mem_or_eq_of_mem_set hx).elim (encB_byt l x) (fun e => by subst e; exact hc)
  refine bnd (idec_f _ hsb (by omega) _ (by omega)) ?_
  have hok := ok_set (encB l) (ok_encB l) j c hjl
  by_cases hc1 : c ≤ 1
  · rw [decide_eq_true hc1] at hok
    have hd2 : decB [] ((encB l).set j c) = (boolsOf ((encB l).set j c), true) := by
      unfold decB; rw [if_pos hok, List.nil_append]
    rw [hd2, if_pos (by simp [hc1]), if_pos rfl]
    have hbl : (boolsOf ((encB l).set j c)).length = l.length := by unfold boolsOf; rw [List.length_map, hsl]
    dsimp only
    refine bnd (ienc_f _ (by omega) _ (by omega)) ?_
    rw [enc_bools _ hsb hok]
    refine bnd (same01_f _ _ (by omega) _ (by omega)) ?_
    simp
  · rw [decide_eq_false hc1] at hok
    have hd2 : decB [] ((encB l).set j c) = ([], false) := by
      unfold decB; rw [if_neg (by rw [hok]; decide)]
    rw [hd2, if_pos (by simp [hc1]), if_neg (by decide), if_pos (by simp)]
end Go.Proofs.YtbiglbdanppjpaaDoor.Pure
