/- Timestamps from fields: what datetime.Unix and its reference answer, in plain numbers. -/
import Derived.Test.YtmfffkmnddeajaaDoorWWords
import Derived.Test.YtmfffkmnddeajaaDoorWMore
import Derived.Test.YtmfffkmnddeajaaDoorOwn
import Derived.Test.YtmfffkmnddeajaaDoorGx2
import Derived.Test.YtmfffkmnddeajaaDoorGx3
import Derived.Test.YtmfffkmnddeajaaDoorGx5
import Derived.Test.YtmfffkmnddeajaaDoorGx6
import Derived.Test.YtmfffkmnddeajaaDoorGx7
import Derived.Test.YtmfffkmnddeajaaDoorGx8
import Derived.Test.YtmfffkmnddeajaaDoorBase
import Derived.Test.YtmfffkmnddeajaaDoorCal
import Derived.Test.YtmfffkmnddeajaaDoorCal2
import Derived.Test.YtmfffkmnddeajaaDoorCal3
import Derived.Test.YtmfffkmnddeajaaDoorVal
import Derived.Test.YtmfffkmnddeajaaDoorDtm
set_option linter.unusedVariables false
set_option linter.unusedSimpArgs false
namespace Go.Proofs.YtmfffkmnddeajaaDoor.Pure
open Go.RowKit Go.Proofs.YtmfffkmnddeajaaDoor.G Go.Proofs.YtmfffkmnddeajaaDoorW.PrintWords Go.Proofs.YtmfffkmnddeajaaDoorW.PrintLast Go.Proofs.YtmfffkmnddeajaaDoorW.PrintMore

def Sec (h mi s : Int) : Int := h * 3600 + mi * 60 + s
def Tm (h mi s : Int) : Prop := 0 ≤ h ∧ h ≤ 23 ∧ 0 ≤ mi ∧ mi ≤ 59 ∧ 0 ≤ s ∧ s ≤ 59
def DateOk (y m d : Int) : Prop := -1099511627776 ≤ y ∧ y ≤ 1099511627776 ∧ Dt y m d
def T (y m d h mi s : Int) : Int := D y m d * 86400 + Sec h mi s
def Good (y m d h mi s wd : Int) : Prop := DateOk y m d ∧ Tm h mi s ∧ wd = (D y m d + 4) % 7 ∧ I64 (T y m d h mi s)
instance (y m d : Int) : Decidable (DateOk y m d) := by unfold DateOk Dt; infer_instance
instance (h mi s : Int) : Decidable (Tm h mi s) := by unfold Tm; infer_instance
theorem wrap_add (a b : Int) : wrap64 (wrap64 a + wrap64 b) = wrap64 (a + b) := by unfold wrap64; omega
theorem wrap_in (a : Int) : I64 (wrap64 a) := by unfold I64 wrap64; omega
theorem wrap_of (a : Int) : ∃ j, wrap64 a = a + 18446744073709551616 * j := by
  refine ⟨-((a + 9223372036854775808) / 18446744073709551616), ?_⟩
  unfold wrap64; omega
theorem u_j1_true (k : Nat) (y m d h mi s wd : Int) : datetime_Unix.j1 (k + 1) true y m d h mi s wd = some (0, false) := by
  rw [datetime_Unix.j1, if_pos rfl]
theorem u_j0_true (k : Nat) (y m d h mi s wd : Int) : datetime_Unix.j0 (k + 1) true y m d h mi s wd = some (0, false) := by
  rw [datetime_Unix.j0, if_pos rfl]
theorem sec_wrap {h mi s : Int} (hT : Tm h mi s) : wrap64 ((wrap64 ((wrap64 (h * 3600)) + (wrap64 (mi * 60)))) + s) = Sec h mi s := by
  unfold Tm at hT; unfold Sec
  rw [w64 (x := h * 3600) (by omega) (by omega), w64 (x := mi * 60) (by omega) (by omega), w64 (x := h * 3600 + mi * 60) (by omega) (by omega), w64 (by omega) (by omega)]
theorem sec_in {h mi s : Int} (hT : Tm h mi s) : 0 ≤ Sec h mi s ∧ Sec h mi s < 86400 ∧ Sec h mi s / 3600 = h ∧ Sec h mi s / 60 % 60 = mi ∧ Sec h mi s % 60 = s := by
  unfold Tm at hT; unfold Sec; omega
theorem DateOk.D_in {y m d : Int} (h : DateOk y m d) : -910000000000000 ≤ D y m d ∧ D y m d ≤ 910000000000000 := by
  have hs := Dt_small h.2.2
  exact D_bound y m d (by unfold Yr; have := h.1; have := h.2.1; omega) h.2.2.1 h.2.2.2.1 (by omega)
theorem DateOk.days {y m d : Int} (h : DateOk y m d) : civil_Days.f y m d = some (D y m d) := by
  have hs := Dt_small h.2.2
  exact days_f y m d (by unfold Yr; have := h.1; have := h.2.1; omega) h.2.2.1 h.2.2.2.1 (by omega)
theorem DateOk.rDays {y m d : Int} (h : DateOk y m d) (k : Nat) (hk : 500 ≤ k) : zoneinforef04_Days.f k y m d = some (D y m d) := by
  have hs := Dt_small h.2.2
  exact rDays_f y m d (by unfold Yr; have := h.1; have := h.2.1; omega) h.2.2.1 h.2.2.2.1 (by omega) k hk
/-- Past the tests of date and time. -/
theorem u_j1 (y m d h mi s wd : Int) (k : Nat) (hd : DateOk y m d) (hT : Tm h mi s) :
    (wd = (D y m d + 4) % 7 ∧ I64 (T y m d h mi s) → datetime_Unix.j1 (k + 1) false y m d h mi s wd = some (T y m d h mi s, true)) ∧
    (¬ (wd = (D y m d + 4) % 7 ∧ I64 (T y m d h mi s)) → datetime_Unix.j1 (k + 1) false y m d h mi s wd = some (0, false)) := by
  obtain ⟨s0, s1, e1, e2, e3⟩ := sec_in hT
  rw [datetime_Unix.j1, if_neg (by decide), hd.days]
  dsimp only [Option.bind_some]
  rw [sec_wrap hT]
  have e : wrap64 ((wrap64 (D y m d * 86400)) + Sec h mi s) = wrap64 (T y m d h mi s) := by
    unfold T wrap64; omega
  rw [e]
  obtain ⟨j, hj⟩ := wrap_of (T y m d h mi s)
  have hin := wrap_in (T y m d h mi s)
  obtain ⟨y', m', d', ⟨g1, g2, _⟩, g3, _⟩ := of_f (wrap64 (T y m d h mi s)) hin
  rw [g3]
  dsimp only [Option.bind_some]
  constructor
  · rintro ⟨hw, hI⟩
    have hT' : wrap64 (T y m d h mi s) = T y m d h mi s := w64 hI.1 hI.2
    rw [hT'] at g2 ⊢
    have d1 : T y m d h mi s / 86400 = D y m d := by unfold T; omega
    have d2 : T y m d h mi s % 86400 = Sec h mi s := by unfold T; omega
    rw [d1] at g2 ⊢
    obtain ⟨rfl, rfl, rfl⟩ := D_inj g1 hd.2.2 g2
    rw [d2, e1, e2, e3, ← hw]
    rw [if_neg (by simp)]
  · intro hn
    rw [if_pos ?_]
    have key : ¬ (y' = y ∧ m' = m ∧ d' = d ∧ wrap64 (T y m d h mi s) % 86400 / 3600 = h ∧ wrap64 (T y m d h mi s) % 86400 / 60 % 60 = mi ∧ wrap64 (T y m d h mi s) % 86400 % 60 = s ∧ (wrap64 (T y m d h mi s) / 86400 + 4) % 7 = wd) := by
      rintro ⟨rfl, rfl, rfl, _, _, _, hw⟩
      refine hn ⟨by rw [g2]; exact hw.symm, ?_⟩
      have : wrap64 (T y' m' d' h mi s) = T y' m' d' h mi s := by
        generalize wrap64 (T y' m' d' h mi s) = W at *
        unfold T at *; omega
      rw [this] at hin; exact hin
    have hb : ∀ (a b : Int), (!(a == b)) = decide (a ≠ b) := fun a b => by
      by_cases hab : a = b
      · subst hab; simp
      · simp [hab]
    simp only [hb, Bool.or_eq_true, decide_eq_true_eq]
    omega
theorem unix_f (y m d h mi s wd : Int) (k : Nat) (hk : 3 ≤ k) :
    (Good y m d h mi s wd → datetime_Unix.f k y m d h mi s wd = some (T y m d h mi s, true)) ∧
    (¬ Good y m d h mi s wd → datetime_Unix.f k y m d h mi s wd = some (0, false)) := by
  obtain ⟨k, rfl⟩ : ∃ j, k = j + 3 := ⟨k - 3, by omega⟩
  by_cases hd : DateOk y m d
  · have hmd : ¬ d > md y m := by have := hd.2.2.2.2.2; omega
    have hh := hd
    unfold DateOk Dt at hh
    have st : datetime_Unix.f (k + 3) y m d h mi s wd = datetime_Unix.j0 (k + 3) false y m d h mi s wd := by
      unfold datetime_Unix.f
      rw [if_neg (by omega), if_neg (by omega), if_neg (by omega), if_neg (by omega), if_neg (by omega)]
      refine bnd (monthDays_f y m hd.2.2.1 hd.2.2.2.1) ?_
      rw [decide_eq_false hmd]
    rw [st]
    by_cases hT : Tm h mi s
    · have st2 : datetime_Unix.j0 (k + 3) false y m d h mi s wd = datetime_Unix.j1 (k + 2) false y m d h mi s wd := by
        rw [datetime_Unix.j0, if_neg (by decide)]
        have ht := hT
        unfold Tm at ht
        rw [if_neg (by omega), if_neg (by omega), if_neg (by omega), if_neg (by omega), if_neg (by omega), decide_eq_false (by omega)]
      rw [st2]
      have := u_j1 y m d h mi s wd (k + 1) hd hT
      exact ⟨fun hg => this.1 hg.2.2, fun hg => this.2 (fun hc => hg ⟨hd, hT, hc⟩)⟩
    · refine ⟨fun hg => (hT hg.2.1).elim, fun _ => ?_⟩
      rw [datetime_Unix.j0, if_neg (by decide)]
      unfold Tm at hT
      split
      · exact u_j1_true _ _ _ _ _ _ _ _
      split
      · exact u_j1_true _ _ _ _ _ _ _ _
      split
      · exact u_j1_true _ _ _ _ _ _ _ _
      split
      · exact u_j1_true _ _ _ _ _ _ _ _
      split
      · exact u_j1_true _ _ _ _ _ _ _ _
      rw [decide_eq_true (by omega)]
      exact u_j1_true _ _ _ _ _ _ _ _
  · refine ⟨fun hg => (hd hg.1).elim, fun _ => ?_⟩
    unfold datetime_Unix.f
    unfold DateOk Dt at hd
    split
    · exact u_j0_true _ _ _ _ _ _ _ _
    split
    · exact u_j0_true _ _ _ _ _ _ _ _
    split
    · exact u_j0_true _ _ _ _ _ _ _ _
    split
    · exact u_j0_true _ _ _ _ _ _ _ _
    split
    · exact u_j0_true _ _ _ _ _ _ _ _
    refine bnd (monthDays_f y m (by omega) (by omega)) ?_
    rw [decide_eq_true (by omega)]
    exact u_j0_true _ _ _ _ _ _ _ _
theorem awake_f (k : Nat) (hk : 500 ≤ k) : zoneinfolaw05_awake.f k = some true := by
  have h : zoneinfolaw05_awake.f 500 = some true := by decide +kernel
  obtain ⟨n, rfl⟩ : ∃ n, k = 500 + n := ⟨k - 500, by omega⟩
  clear hk
  induction n with
  | zero => exact h
  | succ n ih => exact zoneinfolaw05_awake.mono _ _ ih
theorem rValid_j0_true (k : Nat) (y m d h mi s wd : Int) : zoneinforef05_Valid.j0 (k + 1) true y m d h mi s wd = some false := by
  rw [zoneinforef05_Valid.j0, if_pos rfl]
theorem rValid_f (y m d h mi s wd : Int) (k : Nat) (hk : 600 ≤ k) : zoneinforef05_Valid.f k y m d h mi s wd = some (decide (DateOk y m d ∧ Tm h mi s ∧ wd = (D y m d + 4) % 7)) := by
  obtain ⟨k, rfl⟩ : ∃ j, k = j + 1 := ⟨k - 1, by omega⟩
  unfold zoneinforef05_Valid.f
  refine bnd (valid_f y m d (k + 1) (by omega)) ?_
  by_cases hd : DateOk y m d
  · rw [if_pos (show decide (-1099511627776 ≤ y ∧ y ≤ 1099511627776 ∧ Dt y m d) = true from decide_eq_true hd)]
    by_cases hT : Tm h mi s
    · have ht := hT
      unfold Tm at ht
      rw [if_neg (by omega), if_neg (by omega), if_neg (by omega), if_neg (by omega), if_neg (by omega), decide_eq_false (by omega), zoneinforef05_Valid.j0, if_neg (by decide)]
      refine bnd (hd.rDays k (by omega)) ?_
      have := hd.D_in
      refine bnd (rWeekday_f _ (by omega)) ?_
      by_cases hw : wd = (D y m d + 4) % 7
      · rw [decide_eq_true ⟨hd, hT, hw⟩, hw]; simp
      · rw [decide_eq_false (fun hc => hw hc.2.2)]; simp [hw]
    · rw [decide_eq_false (p := DateOk y m d ∧ Tm h mi s ∧ wd = (D y m d + 4) % 7) (fun hc => hT hc.2.1)]
      unfold Tm at hT
      split
      · exact rValid_j0_true _ _ _ _ _ _ _ _
      split
      · exact rValid_j0_true _ _ _ _ _ _ _ _
      split
      · exact rValid_j0_true _ _ _ _ _ _ _ _
      split
      · exact rValid_j0_true _ _ _ _ _ _ _ _
      split
      · exact rValid_j0_true _ _ _ _ _ _ _ _
      rw [decide_eq_true (by omega)]
      exact rValid_j0_true _ _ _ _ _ _ _ _
  · rw [if_neg (by simpa [DateOk] using hd), decide_eq_false (fun hc => hd hc.1)]
    exact rValid_j0_true _ _ _ _ _ _ _ _
theorem rUnix_f (y m d h mi s wd : Int) (k : Nat) (hk : 600 ≤ k) :
    (Good y m d h mi s wd → zoneinforef05_Unix.f k y m d h mi s wd = some (T y m d h mi s, true)) ∧
    (¬ Good y m d h mi s wd → zoneinforef05_Unix.f k y m d h mi s wd = some (0, false)) := by
  obtain ⟨k, rfl⟩ : ∃ j, k = j + 1 := ⟨k - 1, by omega⟩
  unfold zoneinforef05_Unix.f
  rw [rValid_f y m d h mi s wd (k + 1) hk]
  by_cases hv : DateOk y m d ∧ Tm h mi s ∧ wd = (D y m d + 4) % 7
  · obtain ⟨hd, hT, hw⟩ := hv
    have hD := hd.D_in
    obtain ⟨s0, s1, -⟩ := sec_in hT
    have e1 : zoneinforef05_Split.f (-9223372036854775808) = some (-106751991167301, 30592) := by decide +kernel
    have e2 : zoneinforef05_Split.f 9223372036854775807 = some (106751991167300, 55807) := by decide +kernel
    rw [decide_eq_true ⟨hd, hT, hw⟩]
    dsimp only [Option.bind_some]
    rw [if_pos rfl, hd.rDays (k + 1) (by omega), e1, e2]
    dsimp only [Option.bind_some]
    rw [sec_wrap hT]
    have jt : ∀ a b, zoneinforef05_Unix.j0 (k + 1) a b true = some (0, false) := fun a b => by rw [zoneinforef05_Unix.j0, if_pos rfl]
    have jf : I64 (T y m d h mi s) → zoneinforef05_Unix.j0 (k + 1) (D y m d) (Sec h mi s) false = some (T y m d h mi s, true) := fun hI => by
      unfold I64 T at hI
      rw [zoneinforef05_Unix.j0, if_neg (by decide)]
      split
      · rw [w64 (x := D y m d + 1) (by omega) (by omega), w64 (x := (D y m d + 1) * 86400) (by omega) (by omega), w64 (x := Sec h mi s - 86400) (by omega) (by omega), w64 (by omega) (by omega)]
        unfold T; rw [show (D y m d + 1) * 86400 + (Sec h mi s - 86400) = D y m d * 86400 + Sec h mi s by omega]
      · rw [w64 (x := (D y m d) * 86400) (by omega) (by omega), w64 (by omega) (by omega)]
        rfl
    have hG : Good y m d h mi s wd ↔ I64 (T y m d h mi s) := ⟨fun h => h.2.2.2, fun h => ⟨hd, hT, hw, h⟩⟩
    rw [hG]
    have hI : I64 (T y m d h mi s) ↔ ¬ (D y m d < -106751991167301 ∨ (D y m d = -106751991167301 ∧ Sec h mi s < 30592) ∨ D y m d > 106751991167300 ∨ (D y m d = 106751991167300 ∧ Sec h mi s > 55807)) := by
      unfold I64 T; omega
    by_cases hin : I64 (T y m d h mi s)
    · refine ⟨fun _ => ?_, fun hn => (hn hin).elim⟩
      have jf := jf hin
      rw [hI] at hin
      repeat' split
      all_goals first
        | exact jf
        | (exfalso; omega)
        | (rw [decide_eq_false (by omega)]; exact jf)
    · refine ⟨fun h => (hin h).elim, fun _ => ?_⟩
      rw [hI] at hin
      repeat' split
      all_goals first
        | exact jt _ _
        | (exfalso; omega)
        | (rw [decide_eq_true (by omega)]; exact jt _ _)
  · refine ⟨fun hg => (hv ⟨hg.1, hg.2.1, hg.2.2.1⟩).elim, fun _ => ?_⟩
    rw [decide_eq_false hv]
    rfl
end Go.Proofs.YtmfffkmnddeajaaDoor.Pure
