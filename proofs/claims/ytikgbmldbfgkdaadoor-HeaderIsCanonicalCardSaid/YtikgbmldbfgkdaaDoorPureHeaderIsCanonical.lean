/- The plain law behind the walk of HeaderIsCanonical. No condition. -/
import Derived.Test.YtikgbmldbfgkdaaDoorWWords
import Derived.Test.YtikgbmldbfgkdaaDoorWMore
import Derived.Test.YtikgbmldbfgkdaaDoorOwn
import Derived.Test.YtikgbmldbfgkdaaDoorGx19
import Derived.Test.YtikgbmldbfgkdaaDoorBase
import Derived.Test.YtikgbmldbfgkdaaDoorBig
import Derived.Test.YtikgbmldbfgkdaaDoorCur
import Derived.Test.YtikgbmldbfgkdaaDoorHdr
set_option linter.unusedVariables false
set_option linter.unusedSimpArgs false
namespace Go.Proofs.YtikgbmldbfgkdaaDoor.Pure
open Go.RowKit Go.Proofs.YtikgbmldbfgkdaaDoor.G Go.Proofs.YtikgbmldbfgkdaaDoorW.PrintWords Go.Proofs.YtikgbmldbfgkdaaDoorW.PrintLast Go.Proofs.YtikgbmldbfgkdaaDoorW.PrintMore
theorem HeaderIsCanonical : zoneinfolaw13_HeaderIsCanonical.Pure := by
  intro l x y w0 w1 w2 w3 w4
  have hx := wf_u8 w3
  have hy := wf_u8 w4
  have hB : Byt l := Byt.of w2
  refine ⟨1003, ?_⟩
  unfold zoneinfolaw13_HeaderIsCanonical.f
  refine bnd awake13 ?_
  rw [if_pos rfl]
  by_cases hL : (l.length : Int) > 1000
  · rw [decide_eq_true hL]
    simp only [zoneinfolaw13_HeaderIsCanonical.j0]
    rw [if_pos (by decide)]
    exact bnd awake13 rfl
  rw [decide_eq_false hL]
  simp only [zoneinfolaw13_HeaderIsCanonical.j0]
  rw [if_neg (by decide)]
  refine bnd rfl ?_
  dsimp only
  rcases dec_total l hB (by omega) 0 (by omega) 0 with h | h
  case inr =>
    obtain ⟨p', e', a', hr, he, ha, _⟩ := h
    refine bnd hr ?_
    dsimp only
    rw [if_neg he, if_pos (by decide), if_pos (by omega)]
    simp [ha]
  obtain ⟨h44, v, f, hv, hf, ht, hr⟩ := h
  obtain ⟨B, hb⟩ := consistent_any v (f 0) (f 1) (f 2) (f 3) (f 4) (f 5)
  have hR := hr B hb
  cases B with
  | false =>
    rw [if_neg (by decide)] at hR
    refine bnd hR ?_
    dsimp only
    rw [if_neg (by decide), if_pos (by decide), if_pos (by omega)]
    simp
  | true =>
    rw [if_pos rfl] at hR
    refine bnd hR ?_
    dsimp only
    rw [if_pos rfl, if_pos (by omega)]
    have hf6 := six_bound (hf 0) (hf 1) (hf 2) (hf 3) (hf 4) (hf 5)
    have hEq : encH v (pick6 (f 0) (f 1) (f 2) (f 3) (f 4) (f 5)) = encH v f := by
      unfold encH
      rw [encs6_congr _ f 6 (fun j hj => by
        have h6 : j = 0 ∨ j = 1 ∨ j = 2 ∨ j = 3 ∨ j = 4 ∨ j = 5 := by omega
        rcases h6 with rfl | rfl | rfl | rfl | rfl | rfl <;> rfl)]
    have hEn := encode_f hv hf6
    rw [hEq] at hEn
    refine bnd hEn ?_
    rw [if_pos (by omega)]
    rw [List.drop_zero] at ht
    refine bnd (same01_f (encH v f) (l.take 44) (by rw [encH_length]; omega) 1002 (by rw [encH_length]; omega)) ?_
    rw [if_pos (decide_eq_true ht.symm)]
    refine bnd hb ?_
    simp only [zoneinfolaw13_HeaderIsCanonical.j1]
    rw [if_neg (by decide)]
    refine bnd rfl ?_
    rw [if_pos (by simp; omega)]
    refine bnd rfl ?_
    rw [List.nil_append, w64 (x := x) (by omega) (by omega), Int.tmod_eq_emod_of_nonneg hx.1]
    obtain ⟨i, hi⟩ := Int.eq_ofNat_of_zero_le (show 0 ≤ x % 44 by omega)
    have hi44 : i < 44 := by omega
    rw [hi, if_pos (by omega), if_pos (by omega), Int.toNat_natCast]
    refine bnd rfl ?_
    dsimp only
    have hrb := hB.rd (i : Int)
    have hB' : Byt (l.set i ((rd l (i : Int) + y) % 256)) := by
      intro z hz
      rcases List.mem_or_eq_of_mem_set hz with h | rfl
      · exact hB z h
      · omega
    have hlen : (l.set i ((rd l (i : Int) + y) % 256)).length = l.length := List.length_set
    rcases dec_total (l.set i ((rd l (i : Int) + y) % 256)) hB' (by omega) 0 (by omega) 0 with h' | h'
    case inr =>
      obtain ⟨p', e', a', hr', he, ha, _⟩ := h'
      refine bnd hr' ?_
      dsimp only
      by_cases h0 : y = 0
      · rw [if_pos h0]
      · rw [if_neg h0, if_neg he]
    obtain ⟨h44', v', g, hv', hg, ht', hr'⟩ := h'
    obtain ⟨B', hb'⟩ := consistent_any v' (g 0) (g 1) (g 2) (g 3) (g 4) (g 5)
    have hR' := hr' B' hb'
    cases B' with
    | false =>
      rw [if_neg (by decide)] at hR'
      refine bnd hR' ?_
      by_cases h0 : y = 0
      · rw [if_pos h0]
      rw [if_neg h0]
      dsimp only
      rw [if_neg (by decide)]
    | true =>
      rw [if_pos rfl] at hR'
      refine bnd hR' ?_
      by_cases h0 : y = 0
      · rw [if_pos h0]
      rw [if_neg h0]
      dsimp only
      rw [if_pos rfl]
      have hne : ¬ (v' = v ∧ g 0 = f 0 ∧ g 1 = f 1 ∧ g 2 = f 2 ∧ g 3 = f 3 ∧ g 4 = f 4 ∧ g 5 = f 5) := by
        rintro ⟨rfl, g0, g1, g2, g3, g4, g5⟩
        have e1 : encH v' g = encH v' f := by
          unfold encH
          rw [encs6_congr g f 6 (fun j hj => by
            have h6 : j = 0 ∨ j = 1 ∨ j = 2 ∨ j = 3 ∨ j = 4 ∨ j = 5 := by omega
            rcases h6 with rfl | rfl | rfl | rfl | rfl | rfl <;> assumption)]
        rw [List.drop_zero, e1, ← ht] at ht'
        have e2 := congrArg (fun z : List Int => z[i]?) ht'
        simp only [List.getElem?_take, hi44, if_true] at e2
        rw [List.getElem?_set_self (by omega), List.getElem?_eq_getElem (by omega), ← rd_nat l i (by omega)] at e2
        have e3 := Option.some.inj e2
        omega
      congr 1
      rw [Bool.eq_iff_iff]
      simp only [Bool.or_eq_true, Bool.not_eq_true', beq_eq_false_iff_ne, iff_true]
      by_cases k0 : v' = v
      · by_cases k1 : g 0 = f 0
        · by_cases k2 : g 1 = f 1
          · by_cases k3 : g 2 = f 2
            · by_cases k4 : g 3 = f 3
              · by_cases k5 : g 4 = f 4
                · exact .inr (.inr (.inr (.inr (.inr (.inr (fun k6 => hne ⟨k0, k1, k2, k3, k4, k5, k6⟩))))))
                · exact .inr (.inr (.inr (.inr (.inr (.inl k5)))))
              · exact .inr (.inr (.inr (.inr (.inl k4))))
            · exact .inr (.inr (.inr (.inl k3)))
          · exact .inr (.inr (.inl k2))
        · exact .inr (.inl k1)
      · exact .inl k0
end Go.Proofs.YtikgbmldbfgkdaaDoor.Pure
