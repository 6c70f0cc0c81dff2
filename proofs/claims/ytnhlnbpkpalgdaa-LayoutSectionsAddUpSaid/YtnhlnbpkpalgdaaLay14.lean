/- What the functions of layout and of its reference answer, in plain numbers. -/
import Derived.Test.YtnhlnbpkpalgdaaWWords
import Derived.Test.YtnhlnbpkpalgdaaWMore
import Derived.Test.YtnhlnbpkpalgdaaOwn
import Derived.Test.YtnhlnbpkpalgdaaGx3
import Derived.Test.YtnhlnbpkpalgdaaGx4
import Derived.Test.YtnhlnbpkpalgdaaBase
import Derived.Test.YtnhlnbpkpalgdaaSiz
set_option linter.unusedVariables false
set_option linter.unusedSimpArgs false
namespace Go.Proofs.Ytnhlnbpkpalgdaa.Pure
open Go.RowKit Go.Proofs.Ytnhlnbpkpalgdaa.G Go.Proofs.YtnhlnbpkpalgdaaW.PrintWords Go.Proofs.YtnhlnbpkpalgdaaW.PrintLast Go.Proofs.YtnhlnbpkpalgdaaW.PrintMore

/-- Counts of 32 bits. -/
def H32 (ut sd lp tm ty ch : Int) : Prop := (0 ≤ ut ∧ ut < 4294967296) ∧ (0 ≤ sd ∧ sd < 4294967296) ∧ (0 ≤ lp ∧ lp < 4294967296) ∧ (0 ≤ tm ∧ tm < 4294967296) ∧ (0 ≤ ty ∧ ty < 4294967296) ∧ (0 ≤ ch ∧ ch < 4294967296)
/-- The block's length. -/
def Tot (ut sd lp tm ty ch s : Int) : Int := tm * s + tm + 6 * ty + ch + lp * (s + 4) + sd + ut
section
variable {v ut sd lp tm ty ch s : Int}
theorem parts_f (h : H32 ut sd lp tm ty ch) (hs : s = 4 ∨ s = 8) : layout_parts.f v ut sd lp tm ty ch s = some (tm, tm, ty, ch, lp, sd, ut, s, 1, 6, 1, s + 4, 1, 1) := by
  unfold H32 at h
  unfold layout_parts.f
  have e1 : IntKind.u64.wrap s = s := u64w (by omega) (by omega)
  rw [e1, u64w (x := s + 4) (by omega) (by omega), u64w (x := tm) (by omega) (by omega), u64w (x := ty) (by omega) (by omega), u64w (x := ch) (by omega) (by omega), u64w (x := lp) (by omega) (by omega), u64w (x := sd) (by omega) (by omega), u64w (x := ut) (by omega) (by omega)]
theorem tm_s (h : H32 ut sd lp tm ty ch) (hs : s = 4 ∨ s = 8) : 0 ≤ tm * s ∧ tm * s < 34359738368 ∧ 0 ≤ lp * (s + 4) ∧ lp * (s + 4) < 51539607552 := by
  unfold H32 at h
  rcases hs with rfl | rfl <;> omega
theorem lengths_f (h : H32 ut sd lp tm ty ch) (hs : s = 4 ∨ s = 8) : layout_Lengths.f v ut sd lp tm ty ch s = some (tm * s, tm, 6 * ty, ch, lp * (s + 4), sd, ut) := by
  have ht := tm_s h hs
  unfold layout_Lengths.f
  refine bnd (parts_f h hs) ?_
  unfold H32 at h
  dsimp only
  rw [u64w (x := tm * s) (by omega) (by omega), u64w (x := tm * 1) (by omega) (by omega), u64w (x := ty * 6) (by omega) (by omega), u64w (x := ch * 1) (by omega) (by omega), u64w (x := lp * (s + 4)) (by omega) (by omega), u64w (x := sd * 1) (by omega) (by omega), u64w (x := ut * 1) (by omega) (by omega), Int.mul_one, Int.mul_one, Int.mul_one, Int.mul_one, Int.mul_comm ty 6]
theorem rlengths_f (h : H32 ut sd lp tm ty ch) (hs : s = 4 ∨ s = 8) : zoneinforef14_Lengths.f v ut sd lp tm ty ch s = some (tm * s, tm, 6 * ty, ch, lp * (s + 4), sd, ut) := by
  have ht := tm_s h hs
  unfold zoneinforef14_Lengths.f
  unfold H32 at h
  have e1 : IntKind.u64.wrap s = s := u64w (by omega) (by omega)
  rw [e1, u64w (x := s + 4) (by omega) (by omega), u64w (x := tm) (by omega) (by omega), u64w (x := ty) (by omega) (by omega), u64w (x := ch) (by omega) (by omega), u64w (x := lp) (by omega) (by omega), u64w (x := sd) (by omega) (by omega), u64w (x := ut) (by omega) (by omega)]
  rw [u64w (x := tm * s) (by omega) (by omega), u64w (x := 6 * ty) (by omega) (by omega), u64w (x := lp * (s + 4)) (by omega) (by omega)]
theorem sums (h : H32 ut sd lp tm ty ch) (hs : s = 4 ∨ s = 8) : sumU (pick7 (tm * s) tm (6 * ty) ch (lp * (s + 4)) sd ut) 1 = tm * s ∧ sumU (pick7 (tm * s) tm (6 * ty) ch (lp * (s + 4)) sd ut) 2 = tm * s + tm ∧ sumU (pick7 (tm * s) tm (6 * ty) ch (lp * (s + 4)) sd ut) 3 = tm * s + tm + 6 * ty ∧
    sumU (pick7 (tm * s) tm (6 * ty) ch (lp * (s + 4)) sd ut) 4 = tm * s + tm + 6 * ty + ch ∧ sumU (pick7 (tm * s) tm (6 * ty) ch (lp * (s + 4)) sd ut) 5 = tm * s + tm + 6 * ty + ch + lp * (s + 4) ∧ sumU (pick7 (tm * s) tm (6 * ty) ch (lp * (s + 4)) sd ut) 6 = tm * s + tm + 6 * ty + ch + lp * (s + 4) + sd ∧
    sumU (pick7 (tm * s) tm (6 * ty) ch (lp * (s + 4)) sd ut) 7 = Tot ut sd lp tm ty ch s := by
  have ht := tm_s h hs
  unfold H32 at h
  unfold Tot
  generalize tm * s = x at ht ⊢
  generalize lp * (s + 4) = y at ht ⊢
  have e1 : sumU (pick7 x tm (6 * ty) ch y sd ut) 1 = x := by simp only [sumU, pick7]; rw [u64w (by omega) (by omega)]; omega
  have e2 : sumU (pick7 x tm (6 * ty) ch y sd ut) 2 = x + tm := by rw [sumU, e1]; simp only [pick7]; rw [u64w (by omega) (by omega)]
  have e3 : sumU (pick7 x tm (6 * ty) ch y sd ut) 3 = x + tm + 6 * ty := by rw [sumU, e2]; simp only [pick7]; rw [u64w (by omega) (by omega)]
  have e4 : sumU (pick7 x tm (6 * ty) ch y sd ut) 4 = x + tm + 6 * ty + ch := by rw [sumU, e3]; simp only [pick7]; rw [u64w (by omega) (by omega)]
  have e5 : sumU (pick7 x tm (6 * ty) ch y sd ut) 5 = x + tm + 6 * ty + ch + y := by rw [sumU, e4]; simp only [pick7]; rw [u64w (by omega) (by omega)]
  have e6 : sumU (pick7 x tm (6 * ty) ch y sd ut) 6 = x + tm + 6 * ty + ch + y + sd := by rw [sumU, e5]; simp only [pick7]; rw [u64w (by omega) (by omega)]
  have e7 : sumU (pick7 x tm (6 * ty) ch y sd ut) 7 = x + tm + 6 * ty + ch + y + sd + ut := by rw [sumU, e6]; simp only [pick7]; rw [u64w (by omega) (by omega)]
  exact ⟨e1, e2, e3, e4, e5, e6, e7⟩
theorem offsets_f (h : H32 ut sd lp tm ty ch) (hs : s = 4 ∨ s = 8) : layout_Offsets.f v ut sd lp tm ty ch s = some (0, tm * s, tm * s + tm, tm * s + tm + 6 * ty, tm * s + tm + 6 * ty + ch, tm * s + tm + 6 * ty + ch + lp * (s + 4), tm * s + tm + 6 * ty + ch + lp * (s + 4) + sd, Tot ut sd lp tm ty ch s) := by
  unfold layout_Offsets.f
  refine bnd (lengths_f h hs) ?_
  dsimp only
  obtain ⟨e1, e2, e3, e4, e5, e6, e7⟩ := sums h hs
  rw [e1, e2, e3, e4, e5, e6, e7]; rfl
theorem roffsets_f (h : H32 ut sd lp tm ty ch) (hs : s = 4 ∨ s = 8) : zoneinforef14_Offsets.f v ut sd lp tm ty ch s = some (0, tm * s, tm * s + tm, tm * s + tm + 6 * ty, tm * s + tm + 6 * ty + ch, tm * s + tm + 6 * ty + ch + lp * (s + 4), tm * s + tm + 6 * ty + ch + lp * (s + 4) + sd, Tot ut sd lp tm ty ch s) := by
  unfold zoneinforef14_Offsets.f
  refine bnd (rlengths_f h hs) ?_
  dsimp only
  obtain ⟨e1, e2, e3, e4, e5, e6, e7⟩ := sums h hs
  rw [e1, e2, e3, e4, e5, e6, e7]; rfl
theorem sum_f (h : H32 ut sd lp tm ty ch) (hs : s = 4 ∨ s = 8) : zoneinforef14_Sum.f v ut sd lp tm ty ch s = some (Tot ut sd lp tm ty ch s) := by
  unfold zoneinforef14_Sum.f
  refine bnd (rlengths_f h hs) ?_
  dsimp only
  rw [(sums h hs).2.2.2.2.2.2]
theorem tot_f (h : H32 ut sd lp tm ty ch) (hs : s = 4 ∨ s = 8) {lim : Int} (hl : U lim) : layout_Total.f v ut sd lp tm ty ch s lim = some (capS lim (Tot ut sd lp tm ty ch s)) := by
  have ht := tm_s h hs
  unfold layout_Total.f
  refine bnd (parts_f h hs) ?_
  dsimp only
  unfold H32 at h
  have hA : AllU [tm, tm, ty, ch, lp, sd, ut] := by intro x hx; unfold U; simp at hx; omega
  have hB : AllU [s, 1, 6, 1, s + 4, 1, 1] := by intro x hx; unfold U; simp at hx; omega
  unfold sizes_Total.f
  have e := total_loop _ _ hA hB lim hl 7 (by omega) (by simp) (by simp) (by simp) 7 0 20 0 (by omega) (by omega) (by omega) hl.1
  rw [show mn (([tm, tm, ty, ch, lp, sd, ut] : List Int).length : Int) (([s, 1, 6, 1, s + 4, 1, 1] : List Int).length : Int) = ((7 : Nat) : Int) from rfl]
  rw [show ((0 : Nat) : Int) = 0 from rfl] at e
  rw [e]
  unfold Tot
  simp only [List.drop_zero, dot]
  congr 2
  omega
theorem tot_U (h : H32 ut sd lp tm ty ch) (hs : s = 4 ∨ s = 8) : U (Tot ut sd lp tm ty ch s) := by
  have ht := tm_s h hs
  unfold H32 at h
  unfold U Tot
  omega
end
theorem awake14 : zoneinfolaw14_awake.f = some true := by
  have z : H32 0 0 0 2 1 4 := by unfold H32; omega
  have b : H32 4294967295 4294967295 4294967295 4294967295 4294967295 4294967295 := by unfold H32; omega
  unfold zoneinfolaw14_awake.f
  rw [tot_f z (.inl rfl) (by unfold U; omega), tot_f z (.inl rfl) (by unfold U; omega), tot_f b (.inr rfl) (by unfold U; omega), lengths_f z (.inr rfl), offsets_f z (.inl rfl)]
  decide +kernel
theorem size_f (b : Bool) : ∃ s, zoneinforef14_Size.f b = some s ∧ (s = 4 ∨ s = 8) := by
  cases b
  · exact ⟨4, rfl, .inl rfl⟩
  · exact ⟨8, rfl, .inr rfl⟩
end Go.Proofs.Ytnhlnbpkpalgdaa.Pure
