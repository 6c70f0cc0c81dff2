/- Written by a program of this session for this seat: contracts of the functions that its laws reach, or the row of a law over its plain part. -/
import Derived.Test.YtiaobffdggeofaaDoorGx0
import Derived.Test.YtiaobffdggeofaaDoorGx2
import Derived.Test.YtiaobffdggeofaaDoorGx3
import Derived.Test.YtiaobffdggeofaaDoorGx4
namespace Go.Proofs.YtiaobffdggeofaaDoor.G
open Go.RowKit Go.Proofs.YtiaobffdggeofaaDoorW.PrintWords Go.Proofs.YtiaobffdggeofaaDoorW.PrintLast Go.Proofs.YtiaobffdggeofaaDoorW.PrintMore
attribute [local go_sem] max2_int min2_int max_two min_two max_three min_three max_four min_four   -- for this text's walks alone
set_option linter.unusedVariables false
set_option linter.unusedSimpArgs false

/-! ### zoneinfolaw17_awake: function 7 -/
def zoneinfolaw17_awake.f (k : Nat)  : Option (Bool) := (some (([(⟨78796800, 1⟩ : S38), (⟨94694401, 2⟩ : S38)] : List (S38)) : List (S38))).bind fun y146 => ((some (([] : List (S38)) : List (S38))).bind fun y149 => (if y149.length + y146.length < 8796093022208 then ((some (y149 ++ y146 : List (S38))).bind fun y152 => (if y152.length < 8796093022208 then ((some (y152 ++ [(⟨126230402, 2⟩ : S38)] : List (S38))).bind fun y155 => ((leaps_Expiry.f y155).bind fun bt161 => ((leaps_Expiry.f y146).bind fun bt163 => ((leaps_Decode.f k (([0, 0, 0, 5, 255, 255, 255, 255] : List Int)) 4).bind fun t168 => ((leaps_Valid.f y146 1).bind fun t171 => (if t171 = true then ((leaps_Valid.f ([] : List (S38)) 1).bind fun t172 => (if t172 = true then ((leaps_Valid.f y155 4).bind fun t173 => (if t173 = true then ((leaps_Valid.f y155 3).bind fun t174 => (if t174 = true then (none) else ((leaps_NeedsV4.f y155).bind fun t175 => (if t175 = true then ((leaps_NeedsV4.f y146).bind fun t176 => (if t176 = true then (none) else ((leaps_NeedsV4.f (([(⟨5, 9⟩ : S38)] : List (S38)))).bind fun t177 => (if t177 = true then ((leaps_Valid.f (([(⟨(-1), 1⟩ : S38)] : List (S38))) 4).bind fun t181 => (if t181 = true then (none) else (if bt161.1 = 126230402 then (if bt161.2 = true then (if bt163.2 = true then (none) else ((leaps_Correction.f k y146 94694400).bind fun t182 => (if t182 = 1 then ((leaps_Correction.f k y146 94694401).bind fun t183 => (if t183 = 2 then ((leaps_Correction.f k y146 0).bind fun t184 => (if t184 = 0 then ((zoneinforef17_Same.f k t168 (([(⟨5, (-1)⟩ : S38)] : List (S38)))).bind fun t188 => (if t188 = true then ((leaps_Encode.f k y146 8).bind fun t189 => (some ((t189.length : Int) == 24))) else (none))) else (none))) else (none))) else (none)))) else (none)) else (none)))) else (none))))) else (none))))) else (none))) else (none))) else (none))))))) else (none))) else (none)))
theorem zoneinfolaw17_awake.mono : ∀ k, LeO (zoneinfolaw17_awake.f k ) (zoneinfolaw17_awake.f (k + 1) ) := by
  intro  k
  unfold zoneinfolaw17_awake.f
  repeat' first
      | (with_reducible exact leaps_Correction.mono _ _ _)
      | (with_reducible exact leaps_Decode.mono _ _ _)
      | (with_reducible exact leaps_Encode.mono _ _ _)
      | (with_reducible exact zoneinforef17_Same.mono _ _ _)
      | (with_reducible exact LeO.refl _)
      | (with_reducible exact LeO.none _)
      | (with_reducible refine LeO.ite ?_ ?_)
      | (with_reducible refine LeO.bind ?_ (fun _ => ?_))
      | exact leaps_Correction.mono _ _ _
      | exact leaps_Decode.mono _ _ _
      | exact leaps_Encode.mono _ _ _
      | exact zoneinforef17_Same.mono _ _ _
      | exact LeO.none _
      | refine LeO.ite ?_ ?_
      | refine LeO.bind ?_ (fun _ => ?_)
set_option maxHeartbeats 8000000 in
set_option maxRecDepth 100000 in
theorem zoneinfolaw17_awake.calls (k : Nat)  (r : Bool) (w : World) (hrg : GL w) (h : zoneinfolaw17_awake.f k  = some r) :
    Calls Tryd.prog 7 #[] w fun e w' => e = .returned (.bool r) ∧ Below w.heap.size w w' := by
  have hu38 := Tryd.underlying38
  have HRg := Aside0.mk hrg
  clear hrg
  have HB := Aside0.mk (Below.refl w.heap.size w)
  have H : ((some (([(⟨78796800, 1⟩ : S38), (⟨94694401, 2⟩ : S38)] : List (S38)) : List (S38))).bind fun y146 => ((some (([] : List (S38)) : List (S38))).bind fun y149 => (if y149.length + y146.length < 8796093022208 then ((some (y149 ++ y146 : List (S38))).bind fun y152 => (if y152.length < 8796093022208 then ((some (y152 ++ [(⟨126230402, 2⟩ : S38)] : List (S38))).bind fun y155 => ((leaps_Expiry.f y155).bind fun bt161 => ((leaps_Expiry.f y146).bind fun bt163 => ((leaps_Decode.f k (([0, 0, 0, 5, 255, 255, 255, 255] : List Int)) 4).bind fun t168 => ((leaps_Valid.f y146 1).bind fun t171 => (if t171 = true then ((leaps_Valid.f ([] : List (S38)) 1).bind fun t172 => (if t172 = true then ((leaps_Valid.f y155 4).bind fun t173 => (if t173 = true then ((leaps_Valid.f y155 3).bind fun t174 => (if t174 = true then (none) else ((leaps_NeedsV4.f y155).bind fun t175 => (if t175 = true then ((leaps_NeedsV4.f y146).bind fun t176 => (if t176 = true then (none) else ((leaps_NeedsV4.f (([(⟨5, 9⟩ : S38)] : List (S38)))).bind fun t177 => (if t177 = true then ((leaps_Valid.f (([(⟨(-1), 1⟩ : S38)] : List (S38))) 4).bind fun t181 => (if t181 = true then (none) else (if bt161.1 = 126230402 then (if bt161.2 = true then (if bt163.2 = true then (none) else ((leaps_Correction.f k y146 94694400).bind fun t182 => (if t182 = 1 then ((leaps_Correction.f k y146 94694401).bind fun t183 => (if t183 = 2 then ((leaps_Correction.f k y146 0).bind fun t184 => (if t184 = 0 then ((zoneinforef17_Same.f k t168 (([(⟨5, (-1)⟩ : S38)] : List (S38)))).bind fun t188 => (if t188 = true then ((leaps_Encode.f k y146 8).bind fun t189 => (some ((t189.length : Int) == 24))) else (none))) else (none))) else (none))) else (none)))) else (none)) else (none)))) else (none))))) else (none))))) else (none))) else (none))) else (none))))))) else (none))) else (none)))) = some r := h
  clear h
  obtain ⟨y146, hy146⟩ : ∃ y_ : List (S38), y_ = (([(⟨78796800, 1⟩ : S38), (⟨94694401, 2⟩ : S38)] : List (S38))) := ⟨_, rfl⟩
  replace H : ((some (([] : List (S38)) : List (S38))).bind fun y149 => (if y149.length + y146.length < 8796093022208 then ((some (y149 ++ y146 : List (S38))).bind fun y152 => (if y152.length < 8796093022208 then ((some (y152 ++ [(⟨126230402, 2⟩ : S38)] : List (S38))).bind fun y155 => ((leaps_Expiry.f y155).bind fun bt161 => ((leaps_Expiry.f y146).bind fun bt163 => ((leaps_Decode.f k (([0, 0, 0, 5, 255, 255, 255, 255] : List Int)) 4).bind fun t168 => ((leaps_Valid.f y146 1).bind fun t171 => (if t171 = true then ((leaps_Valid.f ([] : List (S38)) 1).bind fun t172 => (if t172 = true then ((leaps_Valid.f y155 4).bind fun t173 => (if t173 = true then ((leaps_Valid.f y155 3).bind fun t174 => (if t174 = true then (none) else ((leaps_NeedsV4.f y155).bind fun t175 => (if t175 = true then ((leaps_NeedsV4.f y146).bind fun t176 => (if t176 = true then (none) else ((leaps_NeedsV4.f (([(⟨5, 9⟩ : S38)] : List (S38)))).bind fun t177 => (if t177 = true then ((leaps_Valid.f (([(⟨(-1), 1⟩ : S38)] : List (S38))) 4).bind fun t181 => (if t181 = true then (none) else (if bt161.1 = 126230402 then (if bt161.2 = true then (if bt163.2 = true then (none) else ((leaps_Correction.f k y146 94694400).bind fun t182 => (if t182 = 1 then ((leaps_Correction.f k y146 94694401).bind fun t183 => (if t183 = 2 then ((leaps_Correction.f k y146 0).bind fun t184 => (if t184 = 0 then ((zoneinforef17_Same.f k t168 (([(⟨5, (-1)⟩ : S38)] : List (S38)))).bind fun t188 => (if t188 = true then ((leaps_Encode.f k y146 8).bind fun t189 => (some ((t189.length : Int) == 24))) else (none))) else (none))) else (none))) else (none)))) else (none)) else (none)))) else (none))))) else (none))))) else (none))) else (none))) else (none))))))) else (none))) else (none))) = some r := by first | (rw [hy146]; with_reducible exact H) | (have H2_ := (Option.bind_some _ _).symm.trans H; rw [hy146]; with_reducible exact H2_) | (have H2_ := (Option.bind_some _ _).symm.trans H; with_reducible exact H2_) | with_reducible exact H | (rw [hy146]; exact H) | exact H
  have Ny146 := Aside0.mk hy146
  clear hy146
  obtain ⟨y149, hy149⟩ : ∃ y_ : List (S38), y_ = (([] : List (S38))) := ⟨_, rfl⟩
  replace H : (if y149.length + y146.length < 8796093022208 then ((some (y149 ++ y146 : List (S38))).bind fun y152 => (if y152.length < 8796093022208 then ((some (y152 ++ [(⟨126230402, 2⟩ : S38)] : List (S38))).bind fun y155 => ((leaps_Expiry.f y155).bind fun bt161 => ((leaps_Expiry.f y146).bind fun bt163 => ((leaps_Decode.f k (([0, 0, 0, 5, 255, 255, 255, 255] : List Int)) 4).bind fun t168 => ((leaps_Valid.f y146 1).bind fun t171 => (if t171 = true then ((leaps_Valid.f ([] : List (S38)) 1).bind fun t172 => (if t172 = true then ((leaps_Valid.f y155 4).bind fun t173 => (if t173 = true then ((leaps_Valid.f y155 3).bind fun t174 => (if t174 = true then (none) else ((leaps_NeedsV4.f y155).bind fun t175 => (if t175 = true then ((leaps_NeedsV4.f y146).bind fun t176 => (if t176 = true then (none) else ((leaps_NeedsV4.f (([(⟨5, 9⟩ : S38)] : List (S38)))).bind fun t177 => (if t177 = true then ((leaps_Valid.f (([(⟨(-1), 1⟩ : S38)] : List (S38))) 4).bind fun t181 => (if t181 = true then (none) else (if bt161.1 = 126230402 then (if bt161.2 = true then (if bt163.2 = true then (none) else ((leaps_Correction.f k y146 94694400).bind fun t182 => (if t182 = 1 then ((leaps_Correction.f k y146 94694401).bind fun t183 => (if t183 = 2 then ((leaps_Correction.f k y146 0).bind fun t184 => (if t184 = 0 then ((zoneinforef17_Same.f k t168 (([(⟨5, (-1)⟩ : S38)] : List (S38)))).bind fun t188 => (if t188 = true then ((leaps_Encode.f k y146 8).bind fun t189 => (some ((t189.length : Int) == 24))) else (none))) else (none))) else (none))) else (none)))) else (none)) else (none)))) else (none))))) else (none))))) else (none))) else (none))) else (none))))))) else (none))) else (none)) = some r := by first | (rw [hy149]; with_reducible exact H) | (have H2_ := (Option.bind_some _ _).symm.trans H; rw [hy149]; with_reducible exact H2_) | (have H2_ := (Option.bind_some _ _).symm.trans H; with_reducible exact H2_) | with_reducible exact H | (rw [hy149]; exact H) | exact H
  have Ny149 := Aside0.mk hy149
  clear hy149
  by_cases c1 : y149.length + y146.length < 8796093022208
  · rw [if_pos c1] at H
    have LMc1 := Aside0.mk c1
    clear c1
    obtain ⟨y152, hy152⟩ : ∃ y_ : List (S38), y_ = (y149 ++ y146) := ⟨_, rfl⟩
    replace H : (if y152.length < 8796093022208 then ((some (y152 ++ [(⟨126230402, 2⟩ : S38)] : List (S38))).bind fun y155 => ((leaps_Expiry.f y155).bind fun bt161 => ((leaps_Expiry.f y146).bind fun bt163 => ((leaps_Decode.f k (([0, 0, 0, 5, 255, 255, 255, 255] : List Int)) 4).bind fun t168 => ((leaps_Valid.f y146 1).bind fun t171 => (if t171 = true then ((leaps_Valid.f ([] : List (S38)) 1).bind fun t172 => (if t172 = true then ((leaps_Valid.f y155 4).bind fun t173 => (if t173 = true then ((leaps_Valid.f y155 3).bind fun t174 => (if t174 = true then (none) else ((leaps_NeedsV4.f y155).bind fun t175 => (if t175 = true then ((leaps_NeedsV4.f y146).bind fun t176 => (if t176 = true then (none) else ((leaps_NeedsV4.f (([(⟨5, 9⟩ : S38)] : List (S38)))).bind fun t177 => (if t177 = true then ((leaps_Valid.f (([(⟨(-1), 1⟩ : S38)] : List (S38))) 4).bind fun t181 => (if t181 = true then (none) else (if bt161.1 = 126230402 then (if bt161.2 = true then (if bt163.2 = true then (none) else ((leaps_Correction.f k y146 94694400).bind fun t182 => (if t182 = 1 then ((leaps_Correction.f k y146 94694401).bind fun t183 => (if t183 = 2 then ((leaps_Correction.f k y146 0).bind fun t184 => (if t184 = 0 then ((zoneinforef17_Same.f k t168 (([(⟨5, (-1)⟩ : S38)] : List (S38)))).bind fun t188 => (if t188 = true then ((leaps_Encode.f k y146 8).bind fun t189 => (some ((t189.length : Int) == 24))) else (none))) else (none))) else (none))) else (none)))) else (none)) else (none)))) else (none))))) else (none))))) else (none))) else (none))) else (none))))))) else (none)) = some r := by first | (rw [hy152]; with_reducible exact H) | (have H2_ := (Option.bind_some _ _).symm.trans H; rw [hy152]; with_reducible exact H2_) | (have H2_ := (Option.bind_some _ _).symm.trans H; with_reducible exact H2_) | with_reducible exact H | (rw [hy152]; exact H) | exact H
    have Ny152 := Aside0.mk hy152
    clear hy152
    by_cases c2 : y152.length < 8796093022208
    · rw [if_pos c2] at H
      have LMc2 := Aside0.mk c2
      clear c2
      obtain ⟨y155, hy155⟩ : ∃ y_ : List (S38), y_ = (y152 ++ [(⟨126230402, 2⟩ : S38)]) := ⟨_, rfl⟩
      replace H : ((leaps_Expiry.f y155).bind fun bt161 => ((leaps_Expiry.f y146).bind fun bt163 => ((leaps_Decode.f k (([0, 0, 0, 5, 255, 255, 255, 255] : List Int)) 4).bind fun t168 => ((leaps_Valid.f y146 1).bind fun t171 => (if t171 = true then ((leaps_Valid.f ([] : List (S38)) 1).bind fun t172 => (if t172 = true then ((leaps_Valid.f y155 4).bind fun t173 => (if t173 = true then ((leaps_Valid.f y155 3).bind fun t174 => (if t174 = true then (none) else ((leaps_NeedsV4.f y155).bind fun t175 => (if t175 = true then ((leaps_NeedsV4.f y146).bind fun t176 => (if t176 = true then (none) else ((leaps_NeedsV4.f (([(⟨5, 9⟩ : S38)] : List (S38)))).bind fun t177 => (if t177 = true then ((leaps_Valid.f (([(⟨(-1), 1⟩ : S38)] : List (S38))) 4).bind fun t181 => (if t181 = true then (none) else (if bt161.1 = 126230402 then (if bt161.2 = true then (if bt163.2 = true then (none) else ((leaps_Correction.f k y146 94694400).bind fun t182 => (if t182 = 1 then ((leaps_Correction.f k y146 94694401).bind fun t183 => (if t183 = 2 then ((leaps_Correction.f k y146 0).bind fun t184 => (if t184 = 0 then ((zoneinforef17_Same.f k t168 (([(⟨5, (-1)⟩ : S38)] : List (S38)))).bind fun t188 => (if t188 = true then ((leaps_Encode.f k y146 8).bind fun t189 => (some ((t189.length : Int) == 24))) else (none))) else (none))) else (none))) else (none)))) else (none)) else (none)))) else (none))))) else (none))))) else (none))) else (none))) else (none)))))) = some r := by first | (rw [hy155]; with_reducible exact H) | (have H2_ := (Option.bind_some _ _).symm.trans H; rw [hy155]; with_reducible exact H2_) | (have H2_ := (Option.bind_some _ _).symm.trans H; with_reducible exact H2_) | with_reducible exact H | (rw [hy155]; exact H) | exact H
      have Ny155 := Aside0.mk hy155
      clear hy155
      obtain ⟨y158, hy158⟩ : ∃ y_ : List (S38), y_ = (([(⟨5, 9⟩ : S38)] : List (S38))) := ⟨_, rfl⟩
      replace H : ((leaps_Expiry.f y155).bind fun bt161 => ((leaps_Expiry.f y146).bind fun bt163 => ((leaps_Decode.f k (([0, 0, 0, 5, 255, 255, 255, 255] : List Int)) 4).bind fun t168 => ((leaps_Valid.f y146 1).bind fun t171 => (if t171 = true then ((leaps_Valid.f ([] : List (S38)) 1).bind fun t172 => (if t172 = true then ((leaps_Valid.f y155 4).bind fun t173 => (if t173 = true then ((leaps_Valid.f y155 3).bind fun t174 => (if t174 = true then (none) else ((leaps_NeedsV4.f y155).bind fun t175 => (if t175 = true then ((leaps_NeedsV4.f y146).bind fun t176 => (if t176 = true then (none) else ((leaps_NeedsV4.f y158).bind fun t177 => (if t177 = true then ((leaps_Valid.f (([(⟨(-1), 1⟩ : S38)] : List (S38))) 4).bind fun t181 => (if t181 = true then (none) else (if bt161.1 = 126230402 then (if bt161.2 = true then (if bt163.2 = true then (none) else ((leaps_Correction.f k y146 94694400).bind fun t182 => (if t182 = 1 then ((leaps_Correction.f k y146 94694401).bind fun t183 => (if t183 = 2 then ((leaps_Correction.f k y146 0).bind fun t184 => (if t184 = 0 then ((zoneinforef17_Same.f k t168 (([(⟨5, (-1)⟩ : S38)] : List (S38)))).bind fun t188 => (if t188 = true then ((leaps_Encode.f k y146 8).bind fun t189 => (some ((t189.length : Int) == 24))) else (none))) else (none))) else (none))) else (none)))) else (none)) else (none)))) else (none))))) else (none))))) else (none))) else (none))) else (none)))))) = some r := by first | (rw [hy158]; with_reducible exact H) | (have H2_ := (Option.bind_some _ _).symm.trans H; rw [hy158]; with_reducible exact H2_) | (have H2_ := (Option.bind_some _ _).symm.trans H; with_reducible exact H2_) | with_reducible exact H | (rw [hy158]; exact H) | exact H
      have Ny158 := Aside0.mk hy158
      clear hy158
      replace H := Option.bind_eq_some_iff.mp H
      obtain ⟨⟨t161, t162⟩, A30, H⟩ := H
      replace H : ((leaps_Expiry.f y146).bind fun bt163 => ((leaps_Decode.f k (([0, 0, 0, 5, 255, 255, 255, 255] : List Int)) 4).bind fun t168 => ((leaps_Valid.f y146 1).bind fun t171 => (if t171 = true then ((leaps_Valid.f ([] : List (S38)) 1).bind fun t172 => (if t172 = true then ((leaps_Valid.f y155 4).bind fun t173 => (if t173 = true then ((leaps_Valid.f y155 3).bind fun t174 => (if t174 = true then (none) else ((leaps_NeedsV4.f y155).bind fun t175 => (if t175 = true then ((leaps_NeedsV4.f y146).bind fun t176 => (if t176 = true then (none) else ((leaps_NeedsV4.f y158).bind fun t177 => (if t177 = true then ((leaps_Valid.f (([(⟨(-1), 1⟩ : S38)] : List (S38))) 4).bind fun t181 => (if t181 = true then (none) else (if t161 = 126230402 then (if t162 = true then (if bt163.2 = true then (none) else ((leaps_Correction.f k y146 94694400).bind fun t182 => (if t182 = 1 then ((leaps_Correction.f k y146 94694401).bind fun t183 => (if t183 = 2 then ((leaps_Correction.f k y146 0).bind fun t184 => (if t184 = 0 then ((zoneinforef17_Same.f k t168 (([(⟨5, (-1)⟩ : S38)] : List (S38)))).bind fun t188 => (if t188 = true then ((leaps_Encode.f k y146 8).bind fun t189 => (some ((t189.length : Int) == 24))) else (none))) else (none))) else (none))) else (none)))) else (none)) else (none)))) else (none))))) else (none))))) else (none))) else (none))) else (none))))) = some r := H
      have A3 := Aside0.mk A30
      clear A30
      replace H := Option.bind_eq_some_iff.mp H
      obtain ⟨⟨t163, t164⟩, A40, H⟩ := H
      replace H : ((leaps_Decode.f k (([0, 0, 0, 5, 255, 255, 255, 255] : List Int)) 4).bind fun t168 => ((leaps_Valid.f y146 1).bind fun t171 => (if t171 = true then ((leaps_Valid.f ([] : List (S38)) 1).bind fun t172 => (if t172 = true then ((leaps_Valid.f y155 4).bind fun t173 => (if t173 = true then ((leaps_Valid.f y155 3).bind fun t174 => (if t174 = true then (none) else ((leaps_NeedsV4.f y155).bind fun t175 => (if t175 = true then ((leaps_NeedsV4.f y146).bind fun t176 => (if t176 = true then (none) else ((leaps_NeedsV4.f y158).bind fun t177 => (if t177 = true then ((leaps_Valid.f (([(⟨(-1), 1⟩ : S38)] : List (S38))) 4).bind fun t181 => (if t181 = true then (none) else (if t161 = 126230402 then (if t162 = true then (if t164 = true then (none) else ((leaps_Correction.f k y146 94694400).bind fun t182 => (if t182 = 1 then ((leaps_Correction.f k y146 94694401).bind fun t183 => (if t183 = 2 then ((leaps_Correction.f k y146 0).bind fun t184 => (if t184 = 0 then ((zoneinforef17_Same.f k t168 (([(⟨5, (-1)⟩ : S38)] : List (S38)))).bind fun t188 => (if t188 = true then ((leaps_Encode.f k y146 8).bind fun t189 => (some ((t189.length : Int) == 24))) else (none))) else (none))) else (none))) else (none)))) else (none)) else (none)))) else (none))))) else (none))))) else (none))) else (none))) else (none)))) = some r := H
      have A4 := Aside0.mk A40
      clear A40
      obtain ⟨y165, hy165⟩ : ∃ y_ : List Int, y_ = (([0, 0, 0, 5, 255, 255, 255, 255] : List Int)) := ⟨_, rfl⟩
      replace H : ((leaps_Decode.f k y165 4).bind fun t168 => ((leaps_Valid.f y146 1).bind fun t171 => (if t171 = true then ((leaps_Valid.f ([] : List (S38)) 1).bind fun t172 => (if t172 = true then ((leaps_Valid.f y155 4).bind fun t173 => (if t173 = true then ((leaps_Valid.f y155 3).bind fun t174 => (if t174 = true then (none) else ((leaps_NeedsV4.f y155).bind fun t175 => (if t175 = true then ((leaps_NeedsV4.f y146).bind fun t176 => (if t176 = true then (none) else ((leaps_NeedsV4.f y158).bind fun t177 => (if t177 = true then ((leaps_Valid.f (([(⟨(-1), 1⟩ : S38)] : List (S38))) 4).bind fun t181 => (if t181 = true then (none) else (if t161 = 126230402 then (if t162 = true then (if t164 = true then (none) else ((leaps_Correction.f k y146 94694400).bind fun t182 => (if t182 = 1 then ((leaps_Correction.f k y146 94694401).bind fun t183 => (if t183 = 2 then ((leaps_Correction.f k y146 0).bind fun t184 => (if t184 = 0 then ((zoneinforef17_Same.f k t168 (([(⟨5, (-1)⟩ : S38)] : List (S38)))).bind fun t188 => (if t188 = true then ((leaps_Encode.f k y146 8).bind fun t189 => (some ((t189.length : Int) == 24))) else (none))) else (none))) else (none))) else (none)))) else (none)) else (none)))) else (none))))) else (none))))) else (none))) else (none))) else (none)))) = some r := by first | (rw [hy165]; with_reducible exact H) | (have H2_ := (Option.bind_some _ _).symm.trans H; rw [hy165]; with_reducible exact H2_) | (have H2_ := (Option.bind_some _ _).symm.trans H; with_reducible exact H2_) | with_reducible exact H | (rw [hy165]; exact H) | exact H
      have Ny165 := Aside0.mk hy165
      clear hy165
      replace H := Option.bind_eq_some_iff.mp H
      obtain ⟨t168, A50, H⟩ := H
      replace H : ((leaps_Valid.f y146 1).bind fun t171 => (if t171 = true then ((leaps_Valid.f ([] : List (S38)) 1).bind fun t172 => (if t172 = true then ((leaps_Valid.f y155 4).bind fun t173 => (if t173 = true then ((leaps_Valid.f y155 3).bind fun t174 => (if t174 = true then (none) else ((leaps_NeedsV4.f y155).bind fun t175 => (if t175 = true then ((leaps_NeedsV4.f y146).bind fun t176 => (if t176 = true then (none) else ((leaps_NeedsV4.f y158).bind fun t177 => (if t177 = true then ((leaps_Valid.f (([(⟨(-1), 1⟩ : S38)] : List (S38))) 4).bind fun t181 => (if t181 = true then (none) else (if t161 = 126230402 then (if t162 = true then (if t164 = true then (none) else ((leaps_Correction.f k y146 94694400).bind fun t182 => (if t182 = 1 then ((leaps_Correction.f k y146 94694401).bind fun t183 => (if t183 = 2 then ((leaps_Correction.f k y146 0).bind fun t184 => (if t184 = 0 then ((zoneinforef17_Same.f k t168 (([(⟨5, (-1)⟩ : S38)] : List (S38)))).bind fun t188 => (if t188 = true then ((leaps_Encode.f k y146 8).bind fun t189 => (some ((t189.length : Int) == 24))) else (none))) else (none))) else (none))) else (none)))) else (none)) else (none)))) else (none))))) else (none))))) else (none))) else (none))) else (none))) = some r := H
      have A5 := Aside0.mk A50
      clear A50
      replace H := Option.bind_eq_some_iff.mp H
      obtain ⟨t171, A60, H⟩ := H
      replace H : (if t171 = true then ((leaps_Valid.f ([] : List (S38)) 1).bind fun t172 => (if t172 = true then ((leaps_Valid.f y155 4).bind fun t173 => (if t173 = true then ((leaps_Valid.f y155 3).bind fun t174 => (if t174 = true then (none) else ((leaps_NeedsV4.f y155).bind fun t175 => (if t175 = true then ((leaps_NeedsV4.f y146).bind fun t176 => (if t176 = true then (none) else ((leaps_NeedsV4.f y158).bind fun t177 => (if t177 = true then ((leaps_Valid.f (([(⟨(-1), 1⟩ : S38)] : List (S38))) 4).bind fun t181 => (if t181 = true then (none) else (if t161 = 126230402 then (if t162 = true then (if t164 = true then (none) else ((leaps_Correction.f k y146 94694400).bind fun t182 => (if t182 = 1 then ((leaps_Correction.f k y146 94694401).bind fun t183 => (if t183 = 2 then ((leaps_Correction.f k y146 0).bind fun t184 => (if t184 = 0 then ((zoneinforef17_Same.f k t168 (([(⟨5, (-1)⟩ : S38)] : List (S38)))).bind fun t188 => (if t188 = true then ((leaps_Encode.f k y146 8).bind fun t189 => (some ((t189.length : Int) == 24))) else (none))) else (none))) else (none))) else (none)))) else (none)) else (none)))) else (none))))) else (none))))) else (none))) else (none))) else (none)) = some r := H
      have A6 := Aside0.mk A60
      clear A60
      by_cases c7 : t171 = true
      · subst c7
        have H1 : ((leaps_Valid.f ([] : List (S38)) 1).bind fun t172 => (if t172 = true then ((leaps_Valid.f y155 4).bind fun t173 => (if t173 = true then ((leaps_Valid.f y155 3).bind fun t174 => (if t174 = true then (none) else ((leaps_NeedsV4.f y155).bind fun t175 => (if t175 = true then ((leaps_NeedsV4.f y146).bind fun t176 => (if t176 = true then (none) else ((leaps_NeedsV4.f y158).bind fun t177 => (if t177 = true then ((leaps_Valid.f (([(⟨(-1), 1⟩ : S38)] : List (S38))) 4).bind fun t181 => (if t181 = true then (none) else (if t161 = 126230402 then (if t162 = true then (if t164 = true then (none) else ((leaps_Correction.f k y146 94694400).bind fun t182 => (if t182 = 1 then ((leaps_Correction.f k y146 94694401).bind fun t183 => (if t183 = 2 then ((leaps_Correction.f k y146 0).bind fun t184 => (if t184 = 0 then ((zoneinforef17_Same.f k t168 (([(⟨5, (-1)⟩ : S38)] : List (S38)))).bind fun t188 => (if t188 = true then ((leaps_Encode.f k y146 8).bind fun t189 => (some ((t189.length : Int) == 24))) else (none))) else (none))) else (none))) else (none)))) else (none)) else (none)))) else (none))))) else (none))))) else (none))) else (none))) = some r := by rw [if_pos rfl] at H; exact H
        clear H
        have H := H1
        clear H1
        replace H := Option.bind_eq_some_iff.mp H
        obtain ⟨t172, A80, H⟩ := H
        replace H : (if t172 = true then ((leaps_Valid.f y155 4).bind fun t173 => (if t173 = true then ((leaps_Valid.f y155 3).bind fun t174 => (if t174 = true then (none) else ((leaps_NeedsV4.f y155).bind fun t175 => (if t175 = true then ((leaps_NeedsV4.f y146).bind fun t176 => (if t176 = true then (none) else ((leaps_NeedsV4.f y158).bind fun t177 => (if t177 = true then ((leaps_Valid.f (([(⟨(-1), 1⟩ : S38)] : List (S38))) 4).bind fun t181 => (if t181 = true then (none) else (if t161 = 126230402 then (if t162 = true then (if t164 = true then (none) else ((leaps_Correction.f k y146 94694400).bind fun t182 => (if t182 = 1 then ((leaps_Correction.f k y146 94694401).bind fun t183 => (if t183 = 2 then ((leaps_Correction.f k y146 0).bind fun t184 => (if t184 = 0 then ((zoneinforef17_Same.f k t168 (([(⟨5, (-1)⟩ : S38)] : List (S38)))).bind fun t188 => (if t188 = true then ((leaps_Encode.f k y146 8).bind fun t189 => (some ((t189.length : Int) == 24))) else (none))) else (none))) else (none))) else (none)))) else (none)) else (none)))) else (none))))) else (none))))) else (none))) else (none)) = some r := H
        have A8 := Aside0.mk A80
        clear A80
        by_cases c9 : t172 = true
        · subst c9
          have H1 : ((leaps_Valid.f y155 4).bind fun t173 => (if t173 = true then ((leaps_Valid.f y155 3).bind fun t174 => (if t174 = true then (none) else ((leaps_NeedsV4.f y155).bind fun t175 => (if t175 = true then ((leaps_NeedsV4.f y146).bind fun t176 => (if t176 = true then (none) else ((leaps_NeedsV4.f y158).bind fun t177 => (if t177 = true then ((leaps_Valid.f (([(⟨(-1), 1⟩ : S38)] : List (S38))) 4).bind fun t181 => (if t181 = true then (none) else (if t161 = 126230402 then (if t162 = true then (if t164 = true then (none) else ((leaps_Correction.f k y146 94694400).bind fun t182 => (if t182 = 1 then ((leaps_Correction.f k y146 94694401).bind fun t183 => (if t183 = 2 then ((leaps_Correction.f k y146 0).bind fun t184 => (if t184 = 0 then ((zoneinforef17_Same.f k t168 (([(⟨5, (-1)⟩ : S38)] : List (S38)))).bind fun t188 => (if t188 = true then ((leaps_Encode.f k y146 8).bind fun t189 => (some ((t189.length : Int) == 24))) else (none))) else (none))) else (none))) else (none)))) else (none)) else (none)))) else (none))))) else (none))))) else (none))) = some r := by rw [if_pos rfl] at H; exact H
          clear H
          have H := H1
          clear H1
          replace H := Option.bind_eq_some_iff.mp H
          obtain ⟨t173, A100, H⟩ := H
          replace H : (if t173 = true then ((leaps_Valid.f y155 3).bind fun t174 => (if t174 = true then (none) else ((leaps_NeedsV4.f y155).bind fun t175 => (if t175 = true then ((leaps_NeedsV4.f y146).bind fun t176 => (if t176 = true then (none) else ((leaps_NeedsV4.f y158).bind fun t177 => (if t177 = true then ((leaps_Valid.f (([(⟨(-1), 1⟩ : S38)] : List (S38))) 4).bind fun t181 => (if t181 = true then (none) else (if t161 = 126230402 then (if t162 = true then (if t164 = true then (none) else ((leaps_Correction.f k y146 94694400).bind fun t182 => (if t182 = 1 then ((leaps_Correction.f k y146 94694401).bind fun t183 => (if t183 = 2 then ((leaps_Correction.f k y146 0).bind fun t184 => (if t184 = 0 then ((zoneinforef17_Same.f k t168 (([(⟨5, (-1)⟩ : S38)] : List (S38)))).bind fun t188 => (if t188 = true then ((leaps_Encode.f k y146 8).bind fun t189 => (some ((t189.length : Int) == 24))) else (none))) else (none))) else (none))) else (none)))) else (none)) else (none)))) else (none))))) else (none))))) else (none)) = some r := H
          have A10 := Aside0.mk A100
          clear A100
          by_cases c11 : t173 = true
          · subst c11
            have H1 : ((leaps_Valid.f y155 3).bind fun t174 => (if t174 = true then (none) else ((leaps_NeedsV4.f y155).bind fun t175 => (if t175 = true then ((leaps_NeedsV4.f y146).bind fun t176 => (if t176 = true then (none) else ((leaps_NeedsV4.f y158).bind fun t177 => (if t177 = true then ((leaps_Valid.f (([(⟨(-1), 1⟩ : S38)] : List (S38))) 4).bind fun t181 => (if t181 = true then (none) else (if t161 = 126230402 then (if t162 = true then (if t164 = true then (none) else ((leaps_Correction.f k y146 94694400).bind fun t182 => (if t182 = 1 then ((leaps_Correction.f k y146 94694401).bind fun t183 => (if t183 = 2 then ((leaps_Correction.f k y146 0).bind fun t184 => (if t184 = 0 then ((zoneinforef17_Same.f k t168 (([(⟨5, (-1)⟩ : S38)] : List (S38)))).bind fun t188 => (if t188 = true then ((leaps_Encode.f k y146 8).bind fun t189 => (some ((t189.length : Int) == 24))) else (none))) else (none))) else (none))) else (none)))) else (none)) else (none)))) else (none))))) else (none))))) = some r := by rw [if_pos rfl] at H; exact H
            clear H
            have H := H1
            clear H1
            replace H := Option.bind_eq_some_iff.mp H
            obtain ⟨t174, A120, H⟩ := H
            replace H : (if t174 = true then (none) else ((leaps_NeedsV4.f y155).bind fun t175 => (if t175 = true then ((leaps_NeedsV4.f y146).bind fun t176 => (if t176 = true then (none) else ((leaps_NeedsV4.f y158).bind fun t177 => (if t177 = true then ((leaps_Valid.f (([(⟨(-1), 1⟩ : S38)] : List (S38))) 4).bind fun t181 => (if t181 = true then (none) else (if t161 = 126230402 then (if t162 = true then (if t164 = true then (none) else ((leaps_Correction.f k y146 94694400).bind fun t182 => (if t182 = 1 then ((leaps_Correction.f k y146 94694401).bind fun t183 => (if t183 = 2 then ((leaps_Correction.f k y146 0).bind fun t184 => (if t184 = 0 then ((zoneinforef17_Same.f k t168 (([(⟨5, (-1)⟩ : S38)] : List (S38)))).bind fun t188 => (if t188 = true then ((leaps_Encode.f k y146 8).bind fun t189 => (some ((t189.length : Int) == 24))) else (none))) else (none))) else (none))) else (none)))) else (none)) else (none)))) else (none))))) else (none)))) = some r := H
            have A12 := Aside0.mk A120
            clear A120
            by_cases c13 : t174 = true
            · subst c13
              have H1 : (none) = some r := by rw [if_pos rfl] at H; exact H
              clear H
              have H := H1
              clear H1
              exact absurd H (by simp)
            · replace c13 := Bool.eq_false_iff.mpr c13
              subst c13
              have H1 : ((leaps_NeedsV4.f y155).bind fun t175 => (if t175 = true then ((leaps_NeedsV4.f y146).bind fun t176 => (if t176 = true then (none) else ((leaps_NeedsV4.f y158).bind fun t177 => (if t177 = true then ((leaps_Valid.f (([(⟨(-1), 1⟩ : S38)] : List (S38))) 4).bind fun t181 => (if t181 = true then (none) else (if t161 = 126230402 then (if t162 = true then (if t164 = true then (none) else ((leaps_Correction.f k y146 94694400).bind fun t182 => (if t182 = 1 then ((leaps_Correction.f k y146 94694401).bind fun t183 => (if t183 = 2 then ((leaps_Correction.f k y146 0).bind fun t184 => (if t184 = 0 then ((zoneinforef17_Same.f k t168 (([(⟨5, (-1)⟩ : S38)] : List (S38)))).bind fun t188 => (if t188 = true then ((leaps_Encode.f k y146 8).bind fun t189 => (some ((t189.length : Int) == 24))) else (none))) else (none))) else (none))) else (none)))) else (none)) else (none)))) else (none))))) else (none))) = some r := by rw [if_neg (show ¬ (false = true) by decide)] at H; exact H
              clear H
              have H := H1
              clear H1
              replace H := Option.bind_eq_some_iff.mp H
              obtain ⟨t175, A140, H⟩ := H
              replace H : (if t175 = true then ((leaps_NeedsV4.f y146).bind fun t176 => (if t176 = true then (none) else ((leaps_NeedsV4.f y158).bind fun t177 => (if t177 = true then ((leaps_Valid.f (([(⟨(-1), 1⟩ : S38)] : List (S38))) 4).bind fun t181 => (if t181 = true then (none) else (if t161 = 126230402 then (if t162 = true then (if t164 = true then (none) else ((leaps_Correction.f k y146 94694400).bind fun t182 => (if t182 = 1 then ((leaps_Correction.f k y146 94694401).bind fun t183 => (if t183 = 2 then ((leaps_Correction.f k y146 0).bind fun t184 => (if t184 = 0 then ((zoneinforef17_Same.f k t168 (([(⟨5, (-1)⟩ : S38)] : List (S38)))).bind fun t188 => (if t188 = true then ((leaps_Encode.f k y146 8).bind fun t189 => (some ((t189.length : Int) == 24))) else (none))) else (none))) else (none))) else (none)))) else (none)) else (none)))) else (none))))) else (none)) = some r := H
              have A14 := Aside0.mk A140
              clear A140
              by_cases c15 : t175 = true
              · subst c15
                have H1 : ((leaps_NeedsV4.f y146).bind fun t176 => (if t176 = true then (none) else ((leaps_NeedsV4.f y158).bind fun t177 => (if t177 = true then ((leaps_Valid.f (([(⟨(-1), 1⟩ : S38)] : List (S38))) 4).bind fun t181 => (if t181 = true then (none) else (if t161 = 126230402 then (if t162 = true then (if t164 = true then (none) else ((leaps_Correction.f k y146 94694400).bind fun t182 => (if t182 = 1 then ((leaps_Correction.f k y146 94694401).bind fun t183 => (if t183 = 2 then ((leaps_Correction.f k y146 0).bind fun t184 => (if t184 = 0 then ((zoneinforef17_Same.f k t168 (([(⟨5, (-1)⟩ : S38)] : List (S38)))).bind fun t188 => (if t188 = true then ((leaps_Encode.f k y146 8).bind fun t189 => (some ((t189.length : Int) == 24))) else (none))) else (none))) else (none))) else (none)))) else (none)) else (none)))) else (none))))) = some r := by rw [if_pos rfl] at H; exact H
                clear H
                have H := H1
                clear H1
                replace H := Option.bind_eq_some_iff.mp H
                obtain ⟨t176, A160, H⟩ := H
                replace H : (if t176 = true then (none) else ((leaps_NeedsV4.f y158).bind fun t177 => (if t177 = true then ((leaps_Valid.f (([(⟨(-1), 1⟩ : S38)] : List (S38))) 4).bind fun t181 => (if t181 = true then (none) else (if t161 = 126230402 then (if t162 = true then (if t164 = true then (none) else ((leaps_Correction.f k y146 94694400).bind fun t182 => (if t182 = 1 then ((leaps_Correction.f k y146 94694401).bind fun t183 => (if t183 = 2 then ((leaps_Correction.f k y146 0).bind fun t184 => (if t184 = 0 then ((zoneinforef17_Same.f k t168 (([(⟨5, (-1)⟩ : S38)] : List (S38)))).bind fun t188 => (if t188 = true then ((leaps_Encode.f k y146 8).bind fun t189 => (some ((t189.length : Int) == 24))) else (none))) else (none))) else (none))) else (none)))) else (none)) else (none)))) else (none)))) = some r := H
                have A16 := Aside0.mk A160
                clear A160
                by_cases c17 : t176 = true
                · subst c17
                  have H1 : (none) = some r := by rw [if_pos rfl] at H; exact H
                  clear H
                  have H := H1
                  clear H1
                  exact absurd H (by simp)
                · replace c17 := Bool.eq_false_iff.mpr c17
                  subst c17
                  have H1 : ((leaps_NeedsV4.f y158).bind fun t177 => (if t177 = true then ((leaps_Valid.f (([(⟨(-1), 1⟩ : S38)] : List (S38))) 4).bind fun t181 => (if t181 = true then (none) else (if t161 = 126230402 then (if t162 = true then (if t164 = true then (none) else ((leaps_Correction.f k y146 94694400).bind fun t182 => (if t182 = 1 then ((leaps_Correction.f k y146 94694401).bind fun t183 => (if t183 = 2 then ((leaps_Correction.f k y146 0).bind fun t184 => (if t184 = 0 then ((zoneinforef17_Same.f k t168 (([(⟨5, (-1)⟩ : S38)] : List (S38)))).bind fun t188 => (if t188 = true then ((leaps_Encode.f k y146 8).bind fun t189 => (some ((t189.length : Int) == 24))) else (none))) else (none))) else (none))) else (none)))) else (none)) else (none)))) else (none))) = some r := by rw [if_neg (show ¬ (false = true) by decide)] at H; exact H
                  clear H
                  have H := H1
                  clear H1
                  replace H := Option.bind_eq_some_iff.mp H
                  obtain ⟨t177, A180, H⟩ := H
                  replace H : (if t177 = true then ((leaps_Valid.f (([(⟨(-1), 1⟩ : S38)] : List (S38))) 4).bind fun t181 => (if t181 = true then (none) else (if t161 = 126230402 then (if t162 = true then (if t164 = true then (none) else ((leaps_Correction.f k y146 94694400).bind fun t182 => (if t182 = 1 then ((leaps_Correction.f k y146 94694401).bind fun t183 => (if t183 = 2 then ((leaps_Correction.f k y146 0).bind fun t184 => (if t184 = 0 then ((zoneinforef17_Same.f k t168 (([(⟨5, (-1)⟩ : S38)] : List (S38)))).bind fun t188 => (if t188 = true then ((leaps_Encode.f k y146 8).bind fun t189 => (some ((t189.length : Int) == 24))) else (none))) else (none))) else (none))) else (none)))) else (none)) else (none)))) else (none)) = some r := H
                  have A18 := Aside0.mk A180
                  clear A180
                  by_cases c19 : t177 = true
                  · subst c19
                    have H1 : ((leaps_Valid.f (([(⟨(-1), 1⟩ : S38)] : List (S38))) 4).bind fun t181 => (if t181 = true then (none) else (if t161 = 126230402 then (if t162 = true then (if t164 = true then (none) else ((leaps_Correction.f k y146 94694400).bind fun t182 => (if t182 = 1 then ((leaps_Correction.f k y146 94694401).bind fun t183 => (if t183 = 2 then ((leaps_Correction.f k y146 0).bind fun t184 => (if t184 = 0 then ((zoneinforef17_Same.f k t168 (([(⟨5, (-1)⟩ : S38)] : List (S38)))).bind fun t188 => (if t188 = true then ((leaps_Encode.f k y146 8).bind fun t189 => (some ((t189.length : Int) == 24))) else (none))) else (none))) else (none))) else (none)))) else (none)) else (none)))) = some r := by rw [if_pos rfl] at H; exact H
                    clear H
                    have H := H1
                    clear H1
                    obtain ⟨y178, hy178⟩ : ∃ y_ : List (S38), y_ = (([(⟨(-1), 1⟩ : S38)] : List (S38))) := ⟨_, rfl⟩
                    replace H : ((leaps_Valid.f y178 4).bind fun t181 => (if t181 = true then (none) else (if t161 = 126230402 then (if t162 = true then (if t164 = true then (none) else ((leaps_Correction.f k y146 94694400).bind fun t182 => (if t182 = 1 then ((leaps_Correction.f k y146 94694401).bind fun t183 => (if t183 = 2 then ((leaps_Correction.f k y146 0).bind fun t184 => (if t184 = 0 then ((zoneinforef17_Same.f k t168 (([(⟨5, (-1)⟩ : S38)] : List (S38)))).bind fun t188 => (if t188 = true then ((leaps_Encode.f k y146 8).bind fun t189 => (some ((t189.length : Int) == 24))) else (none))) else (none))) else (none))) else (none)))) else (none)) else (none)))) = some r := by first | (rw [hy178]; with_reducible exact H) | (have H2_ := (Option.bind_some _ _).symm.trans H; rw [hy178]; with_reducible exact H2_) | (have H2_ := (Option.bind_some _ _).symm.trans H; with_reducible exact H2_) | with_reducible exact H | (rw [hy178]; exact H) | exact H
                    have Ny178 := Aside0.mk hy178
                    clear hy178
                    replace H := Option.bind_eq_some_iff.mp H
                    obtain ⟨t181, A200, H⟩ := H
                    replace H : (if t181 = true then (none) else (if t161 = 126230402 then (if t162 = true then (if t164 = true then (none) else ((leaps_Correction.f k y146 94694400).bind fun t182 => (if t182 = 1 then ((leaps_Correction.f k y146 94694401).bind fun t183 => (if t183 = 2 then ((leaps_Correction.f k y146 0).bind fun t184 => (if t184 = 0 then ((zoneinforef17_Same.f k t168 (([(⟨5, (-1)⟩ : S38)] : List (S38)))).bind fun t188 => (if t188 = true then ((leaps_Encode.f k y146 8).bind fun t189 => (some ((t189.length : Int) == 24))) else (none))) else (none))) else (none))) else (none)))) else (none)) else (none))) = some r := H
                    have A20 := Aside0.mk A200
                    clear A200
                    by_cases c21 : t181 = true
                    · subst c21
                      have H1 : (none) = some r := by rw [if_pos rfl] at H; exact H
                      clear H
                      have H := H1
                      clear H1
                      exact absurd H (by simp)
                    · replace c21 := Bool.eq_false_iff.mpr c21
                      subst c21
                      have H1 : (if t161 = 126230402 then (if t162 = true then (if t164 = true then (none) else ((leaps_Correction.f k y146 94694400).bind fun t182 => (if t182 = 1 then ((leaps_Correction.f k y146 94694401).bind fun t183 => (if t183 = 2 then ((leaps_Correction.f k y146 0).bind fun t184 => (if t184 = 0 then ((zoneinforef17_Same.f k t168 (([(⟨5, (-1)⟩ : S38)] : List (S38)))).bind fun t188 => (if t188 = true then ((leaps_Encode.f k y146 8).bind fun t189 => (some ((t189.length : Int) == 24))) else (none))) else (none))) else (none))) else (none)))) else (none)) else (none)) = some r := by rw [if_neg (show ¬ (false = true) by decide)] at H; exact H
                      clear H
                      have H := H1
                      clear H1
                      by_cases c22 : t161 = 126230402
                      · rw [if_pos c22] at H
                        have c22b0 : (t161 == 126230402) = true := beq_iff_eq.mpr c22
                        have c22b1 : (t161 != 126230402) = false := bne_eq_false_iff_eq.mpr c22
                        clear c22
                        by_cases c23 : t162 = true
                        · subst c23
                          have H1 : (if t164 = true then (none) else ((leaps_Correction.f k y146 94694400).bind fun t182 => (if t182 = 1 then ((leaps_Correction.f k y146 94694401).bind fun t183 => (if t183 = 2 then ((leaps_Correction.f k y146 0).bind fun t184 => (if t184 = 0 then ((zoneinforef17_Same.f k t168 (([(⟨5, (-1)⟩ : S38)] : List (S38)))).bind fun t188 => (if t188 = true then ((leaps_Encode.f k y146 8).bind fun t189 => (some ((t189.length : Int) == 24))) else (none))) else (none))) else (none))) else (none)))) = some r := by rw [if_pos rfl] at H; exact H
                          clear H
                          have H := H1
                          clear H1
                          by_cases c24 : t164 = true
                          · subst c24
                            have H1 : (none) = some r := by rw [if_pos rfl] at H; exact H
                            clear H
                            have H := H1
                            clear H1
                            exact absurd H (by simp)
                          · replace c24 := Bool.eq_false_iff.mpr c24
                            subst c24
                            have H1 : ((leaps_Correction.f k y146 94694400).bind fun t182 => (if t182 = 1 then ((leaps_Correction.f k y146 94694401).bind fun t183 => (if t183 = 2 then ((leaps_Correction.f k y146 0).bind fun t184 => (if t184 = 0 then ((zoneinforef17_Same.f k t168 (([(⟨5, (-1)⟩ : S38)] : List (S38)))).bind fun t188 => (if t188 = true then ((leaps_Encode.f k y146 8).bind fun t189 => (some ((t189.length : Int) == 24))) else (none))) else (none))) else (none))) else (none))) = some r := by rw [if_neg (show ¬ (false = true) by decide)] at H; exact H
                            clear H
                            have H := H1
                            clear H1
                            replace H := Option.bind_eq_some_iff.mp H
                            obtain ⟨t182, A250, H⟩ := H
                            replace H : (if t182 = 1 then ((leaps_Correction.f k y146 94694401).bind fun t183 => (if t183 = 2 then ((leaps_Correction.f k y146 0).bind fun t184 => (if t184 = 0 then ((zoneinforef17_Same.f k t168 (([(⟨5, (-1)⟩ : S38)] : List (S38)))).bind fun t188 => (if t188 = true then ((leaps_Encode.f k y146 8).bind fun t189 => (some ((t189.length : Int) == 24))) else (none))) else (none))) else (none))) else (none)) = some r := H
                            have A25 := Aside0.mk A250
                            clear A250
                            by_cases c26 : t182 = 1
                            · rw [if_pos c26] at H
                              have c26b0 : (t182 == 1) = true := beq_iff_eq.mpr c26
                              have c26b1 : (t182 != 1) = false := bne_eq_false_iff_eq.mpr c26
                              clear c26
                              replace H := Option.bind_eq_some_iff.mp H
                              obtain ⟨t183, A270, H⟩ := H
                              replace H : (if t183 = 2 then ((leaps_Correction.f k y146 0).bind fun t184 => (if t184 = 0 then ((zoneinforef17_Same.f k t168 (([(⟨5, (-1)⟩ : S38)] : List (S38)))).bind fun t188 => (if t188 = true then ((leaps_Encode.f k y146 8).bind fun t189 => (some ((t189.length : Int) == 24))) else (none))) else (none))) else (none)) = some r := H
                              have A27 := Aside0.mk A270
                              clear A270
                              by_cases c28 : t183 = 2
                              · rw [if_pos c28] at H
                                have c28b0 : (t183 == 2) = true := beq_iff_eq.mpr c28
                                have c28b1 : (t183 != 2) = false := bne_eq_false_iff_eq.mpr c28
                                clear c28
                                replace H := Option.bind_eq_some_iff.mp H
                                obtain ⟨t184, A290, H⟩ := H
                                replace H : (if t184 = 0 then ((zoneinforef17_Same.f k t168 (([(⟨5, (-1)⟩ : S38)] : List (S38)))).bind fun t188 => (if t188 = true then ((leaps_Encode.f k y146 8).bind fun t189 => (some ((t189.length : Int) == 24))) else (none))) else (none)) = some r := H
                                have A29 := Aside0.mk A290
                                clear A290
                                by_cases c30 : t184 = 0
                                · rw [if_pos c30] at H
                                  have c30b0 : (t184 == 0) = true := beq_iff_eq.mpr c30
                                  have c30b1 : (t184 != 0) = false := bne_eq_false_iff_eq.mpr c30
                                  clear c30
                                  obtain ⟨y185, hy185⟩ : ∃ y_ : List (S38), y_ = (([(⟨5, (-1)⟩ : S38)] : List (S38))) := ⟨_, rfl⟩
                                  replace H : ((zoneinforef17_Same.f k t168 y185).bind fun t188 => (if t188 = true then ((leaps_Encode.f k y146 8).bind fun t189 => (some ((t189.length : Int) == 24))) else (none))) = some r := by first | (rw [hy185]; with_reducible exact H) | (have H2_ := (Option.bind_some _ _).symm.trans H; rw [hy185]; with_reducible exact H2_) | (have H2_ := (Option.bind_some _ _).symm.trans H; with_reducible exact H2_) | with_reducible exact H | (rw [hy185]; exact H) | exact H
                                  have Ny185 := Aside0.mk hy185
                                  clear hy185
                                  replace H := Option.bind_eq_some_iff.mp H
                                  obtain ⟨t188, A310, H⟩ := H
                                  replace H : (if t188 = true then ((leaps_Encode.f k y146 8).bind fun t189 => (some ((t189.length : Int) == 24))) else (none)) = some r := H
                                  have A31 := Aside0.mk A310
                                  clear A310
                                  by_cases c32 : t188 = true
                                  · subst c32
                                    have H1 : ((leaps_Encode.f k y146 8).bind fun t189 => (some ((t189.length : Int) == 24))) = some r := by rw [if_pos rfl] at H; exact H
                                    clear H
                                    have H := H1
                                    clear H1
                                    replace H := Option.bind_eq_some_iff.mp H
                                    obtain ⟨t189, A330, H⟩ := H
                                    replace H : (some ((t189.length : Int) == 24)) = some r := H
                                    have A33 := Aside0.mk A330
                                    clear A330
                                    obtain rfl := Option.some.inj H
                                    go_enter Tryd.func7, Tryd.ntmps7
                                    (try simp only [List.append_eq, List.cons_append, List.nil_append])
                                    go_wp2_with (first | ((with_reducible refine gate_dst (N := 11) rfl ?_); (try (refine gate_guard (by rfl) ?_; dsimp only)); refine Kd.R_lit k38 _ 38 ?hg (N := 11) ?hd (xs := ([(⟨78796800, 1⟩ : S38), (⟨94694401, 2⟩ : S38)] : List (S38))) (inner := [.int .i64 78796800, .int .i32 1, .int .i64 94694401, .int .i32 2]) (ok := fun _ => True) (okp := fun _ => True) ?hr ?hp (fun _ hk => hk) trivial (Below.refl _ _) (Nat.le_refl _) (by simp) ?_; (case hd => rfl); (case hg => rfl); (case hr => first | (go_simp; done) | (go_simp; rfl)); (case hp => exact (Reps.c2 (show Kd.M k38 _ _ _ (⟨78796800, 1⟩ : S38) [.int .i64 78796800, .int .i32 1] from (k38_mkM _ _ _ (⟨78796800, 1⟩ : S38) )) (Reps.c2 (show Kd.M k38 _ _ _ (⟨94694401, 2⟩ : S38) [.int .i64 94694401, .int .i32 2] from (k38_mkM _ _ _ (⟨94694401, 2⟩ : S38) )) (Reps.none _ _)))); intro v147 w34 ho35 hb hg_ hnew_; clear hg_ hnew_; (first | rw [← Ny146.out] at ho35 | (simp only [Int.reduceToNat] at ho35; rw [← Ny146.out] at ho35)); have n0_ := Aside0.mk (Kd.R_lower ho35 (below_size (by repeat (first | (with_reducible first | exact HB.out | apply below_alloc | apply pw_below_drewN | apply below_drew1) | exact HB.out)))); have n1_ := Aside0.mk (below_step (by repeat (first | (with_reducible first | exact HB.out | apply below_alloc | apply pw_below_drewN | apply below_drew1) | exact HB.out)) hb); clear HB; have HO148 := n0_; have HB := n1_; clear n0_ n1_; clear hb ho35) | ((with_reducible refine gate_dst (N := 12) rfl ?_); (try (refine gate_guard (by rfl) ?_; dsimp only)); refine Kd.R_lit k38 _ 38 ?hg (N := 12) ?hd (xs := ([] : List (S38))) (inner := []) (ok := fun _ => True) (okp := fun _ => True) ?hr ?hp (fun _ hk => hk) trivial (Below.refl _ _) (Nat.le_refl _) (by simp) ?_; (case hd => rfl); (case hg => rfl); (case hr => first | (go_simp; done) | (go_simp; rfl)); (case hp => exact (Reps.none _ _)); intro v150 w36 ho37 hb hg_ hnew_; clear hg_ hnew_; (first | rw [← Ny149.out] at ho37 | (simp only [Int.reduceToNat] at ho37; rw [← Ny149.out] at ho37)); have n0_ := Aside0.mk (Kd.R_elder' (by (with_reducible repeat (first | apply Kd.R_alloc | apply Kd.R_drewN | apply Kd.R_drew)); exact HO148.out) (Kd.R_base ho37) hb); have n1_ := Aside0.mk (Kd.R_lower (Kd.R_new' ho37 (Kd.R_lt (by (with_reducible repeat (first | apply Kd.R_alloc | apply Kd.R_drewN | apply Kd.R_drew)); exact HO148.out))) (below_size (by repeat (first | (with_reducible first | exact HB.out | apply below_alloc | apply pw_below_drewN | apply below_drew1) | exact HB.out)))); have n2_ := Aside0.mk (below_step (by repeat (first | (with_reducible first | exact HB.out | apply below_alloc | apply pw_below_drewN | apply below_drew1) | exact HB.out)) hb); clear HO148; clear HB; have HO148 := n0_; have HO151 := n1_; have HB := n2_; clear n0_ n1_ n2_; clear hb ho37; obtain ⟨Ao39, co39, eo39⟩ := Kd.R_slice HO148.out; subst eo39) | ((with_reducible refine gate_builtin (b := .append) (xs := #[.tmp 12, .tmp 13]) rfl ?_); (try (refine gate_guard (by rfl) ?_; dsimp only)); at_builtin; refine Kd.R_append_rows k38 (w0 := w) w.heap.size rfl (.tmp 12) (.tmp 13) 23 38 (.agg #[(.int .i64 0), (.int .i32 0)]) 16 rfl Tryd.underlying23 info38 rfl (by decide) (by omega) v150 y149 y146 _ _ _ (fun k_ => some k_ ≠ (.slice Ao39 y146.length co39 : Value).ownBlock) (fun _ => False) rfl rfl ?aO ?aR (fun _ _ h => h) (fun _ h => h.elim) ?aF ?aB ?aS ?aL ?_; (case aR => repeat (first | exact (Kd.R_reads' HO148.out).2.2 | (with_reducible refine Kd.C_alloc ?_ _) | (with_reducible refine Kd.C_drewN ?_ _) | (with_reducible refine Kd.C_drew ?_))); (case aB => exact (by repeat (first | (with_reducible first | exact HB.out | apply below_alloc | apply pw_below_drewN | apply below_drew1) | exact HB.out))); (case aF => exact (fun k_ hk => Kd.fresh' (Kd.R_lt (by (with_reducible repeat (first | apply Kd.R_alloc | apply Kd.R_drewN | apply Kd.R_drew)); exact HO148.out)) k_ hk)); (case aO => exact (by (with_reducible repeat (first | apply Kd.R_alloc | apply Kd.R_drewN | apply Kd.R_drew)); exact Kd.R_mono HO151.out (fun _ hk => hk.2))); (case aS => exact (below_size (by repeat (first | (with_reducible first | exact HB.out | apply below_alloc | apply pw_below_drewN | apply below_drew1) | exact HB.out)))); (case aL => have := LMc1.out; omega); intro v153 w38 ho hb hg hat; rw [← Ny152.out] at ho; have n0_ := Aside0.mk (Kd.R_after (ok := (fun _ => True)) (by (with_reducible repeat (first | apply Kd.R_alloc | apply Kd.R_drewN | apply Kd.R_drew)); exact HO148.out) hg hat); have n1_ := Aside0.mk (hb); have n2_ := Aside0.mk (ho); clear HO148; clear HB; clear HO151; have HO148 := n0_; have HB := n1_; have HO154 := n2_; clear n0_ n1_ n2_; clear ho hb hg hat) | ((with_reducible refine gate_builtin (b := .append) (xs := #[.tmp 14, .tmp 16]) rfl ?_); (try (refine gate_guard (by rfl) ?_; dsimp only)); at_builtin; refine Kd.R_append k38 (w0 := w) w.heap.size rfl (.tmp 14) (.tmp 16) 23 38 (.agg #[(.int .i64 0), (.int .i32 0)]) 16 rfl Tryd.underlying23 info38 rfl (by decide) (by omega) v153 y152 (⟨126230402, 2⟩ : S38) [.int .i64 126230402, .int .i32 2] (fun k_ => some k_ ≠ (.slice Ao39 y146.length co39 : Value).ownBlock) (fun _ => False) rfl rfl ?aP (fun _ hk => hk.elim) ?aF ?aO ?aB ?aS ?aL ?_; (case aP => exact k38_mkM _ _ _ (⟨126230402, 2⟩ : S38)); (case aB => exact (by repeat (first | (with_reducible first | exact HB.out | apply below_alloc | apply pw_below_drewN | apply below_drew1) | exact HB.out))); (case aF => exact (fun k_ hk => Kd.fresh' (Kd.R_lt (by (with_reducible repeat (first | apply Kd.R_alloc | apply Kd.R_drewN | apply Kd.R_drew)); exact HO148.out)) k_ hk)); (case aO => exact (by (with_reducible repeat (first | apply Kd.R_alloc | apply Kd.R_drewN | apply Kd.R_drew)); exact HO154.out)); (case aS => exact (below_size (by repeat (first | (with_reducible first | exact HB.out | apply below_alloc | apply pw_below_drewN | apply below_drew1) | exact HB.out)))); (case aL => have := LMc2.out; omega); intro v156 w40 ho hb hg hat; rw [← Ny155.out] at ho; have n0_ := Aside0.mk (Kd.R_after (ok := (fun _ => True)) (by (with_reducible repeat (first | apply Kd.R_alloc | apply Kd.R_drewN | apply Kd.R_drew)); exact HO148.out) hg hat); have n1_ := Aside0.mk (hb); have n2_ := Aside0.mk (ho); clear HO148; clear HB; clear HO154; have HO148 := n0_; have HB := n1_; have HO157 := n2_; clear n0_ n1_ n2_; clear ho hb hg hat) | ((with_reducible refine gate_dst (N := 19) rfl ?_); (try (refine gate_guard (by rfl) ?_; dsimp only)); refine Kd.R_lit k38 _ 38 ?hg (N := 19) ?hd (xs := ([(⟨5, 9⟩ : S38)] : List (S38))) (inner := [.int .i64 5, .int .i32 9]) (ok := fun _ => True) (okp := fun _ => True) ?hr ?hp (fun _ hk => hk) trivial (Below.refl _ _) (Nat.le_refl _) (by simp) ?_; (case hd => rfl); (case hg => rfl); (case hr => first | (go_simp; done) | (go_simp; rfl)); (case hp => exact (Reps.c2 (show Kd.M k38 _ _ _ (⟨5, 9⟩ : S38) [.int .i64 5, .int .i32 9] from (k38_mkM _ _ _ (⟨5, 9⟩ : S38) )) (Reps.none _ _))); intro v159 w41 ho42 hb hg_ hnew_; clear hg_ hnew_; (first | rw [← Ny158.out] at ho42 | (simp only [Int.reduceToNat] at ho42; rw [← Ny158.out] at ho42)); have n0_ := Aside0.mk (Kd.R_elder' (by (with_reducible repeat (first | apply Kd.R_alloc | apply Kd.R_drewN | apply Kd.R_drew)); exact HO148.out) (Kd.R_base ho42) hb); have n1_ := Aside0.mk (Kd.R_elder' (by (with_reducible repeat (first | apply Kd.R_alloc | apply Kd.R_drewN | apply Kd.R_drew)); exact HO157.out) (Kd.R_base ho42) hb); have n2_ := Aside0.mk (Kd.R_lower (Kd.R_new' (Kd.R_new' ho42 (Kd.R_lt (by (with_reducible repeat (first | apply Kd.R_alloc | apply Kd.R_drewN | apply Kd.R_drew)); exact HO148.out))) (Kd.R_lt (by (with_reducible repeat (first | apply Kd.R_alloc | apply Kd.R_drewN | apply Kd.R_drew)); exact HO157.out))) (below_size (by repeat (first | (with_reducible first | exact HB.out | apply below_alloc | apply pw_below_drewN | apply below_drew1) | exact HB.out)))); have n3_ := Aside0.mk (below_step (by repeat (first | (with_reducible first | exact HB.out | apply below_alloc | apply pw_below_drewN | apply below_drew1) | exact HB.out)) hb); clear HO148; clear HO157; clear HB; have HO148 := n0_; have HO157 := n1_; have HO160 := n2_; have HB := n3_; clear n0_ n1_ n2_ n3_; clear hb ho42; obtain ⟨Ao43, co43, eo43⟩ := Kd.R_slice HO157.out; subst eo43) | ((with_reducible refine gate_callee (f := 19) rfl ?_); refine goesL_ (some 22) rfl rfl Tryd.func19 (by kernel_rfl) rfl #[.slice Ao43 y155.length co43] rfl (by (try simp only [List.map_toArray, List.map_cons, List.map_nil]); first | done | rfl | (simp only [List.length_drop, List.length_take]; rfl)) ?_; (with_reducible refine (leaps_Expiry.calls _ _ y155 t161 true _ ?side1 ?side2 A3.out).mono ?_); (case side1 => repeat (first | exact (Kd.R_reads' HO157.out).2.2 | (with_reducible refine Kd.C_alloc ?_ _) | (with_reducible refine Kd.C_drewN ?_ _) | (with_reducible refine Kd.C_drew ?_))); (case side2 => exact (Kd.R_reads' HO157.out).2.1); rintro e w' ⟨rfl, ⟨nd, rfl⟩⟩; refine ⟨_, rfl, ?_⟩) | ((with_reducible refine gate_callee (f := 19) rfl ?_); refine goesL_ (some 27) rfl rfl Tryd.func19 (by kernel_rfl) rfl #[.slice Ao39 y146.length co39] rfl (by (try simp only [List.map_toArray, List.map_cons, List.map_nil]); first | done | rfl | (simp only [List.length_drop, List.length_take]; rfl)) ?_; (with_reducible refine (leaps_Expiry.calls _ _ y146 t163 false _ ?side1 ?side2 A4.out).mono ?_); (case side1 => repeat (first | exact (Kd.R_reads' HO148.out).2.2 | (with_reducible refine Kd.C_alloc ?_ _) | (with_reducible refine Kd.C_drewN ?_ _) | (with_reducible refine Kd.C_drew ?_))); (case side2 => exact (Kd.R_reads' HO148.out).2.1); rintro e w' ⟨rfl, ⟨nd, rfl⟩⟩; refine ⟨_, rfl, ?_⟩) | ((with_reducible refine gate_dst (N := 30) rfl ?_); (try (refine gate_guard (by rfl) ?_; dsimp only)); refine Kd.R_lit (Kd.int .u8) _ 5 ?hg (N := 30) ?hd (xs := ([0, 0, 0, 5, 255, 255, 255, 255] : List Int)) (inner := [.int .u8 0, .int .u8 0, .int .u8 0, .int .u8 5, .int .u8 255, .int .u8 255, .int .u8 255, .int .u8 255]) (ok := fun _ => True) (okp := fun _ => True) ?hr ?hp (fun _ hk => hk) trivial (Below.refl _ _) (Nat.le_refl _) (by simp) ?_; (case hd => rfl); (case hg => rfl); (case hr => first | (go_simp; done) | (go_simp; rfl)); (case hp => exact (Reps.one (show Kd.M (Kd.int .u8) _ _ _ 0 [.int .u8 0] from rfl) (Reps.one (show Kd.M (Kd.int .u8) _ _ _ 0 [.int .u8 0] from rfl) (Reps.one (show Kd.M (Kd.int .u8) _ _ _ 0 [.int .u8 0] from rfl) (Reps.one (show Kd.M (Kd.int .u8) _ _ _ 5 [.int .u8 5] from rfl) (Reps.one (show Kd.M (Kd.int .u8) _ _ _ 255 [.int .u8 255] from rfl) (Reps.one (show Kd.M (Kd.int .u8) _ _ _ 255 [.int .u8 255] from rfl) (Reps.one (show Kd.M (Kd.int .u8) _ _ _ 255 [.int .u8 255] from rfl) (Reps.one (show Kd.M (Kd.int .u8) _ _ _ 255 [.int .u8 255] from rfl) (Reps.none _ _)))))))))); intro v166 w44 ho45 hb hg_ hnew_; clear hg_ hnew_; (first | rw [← Ny165.out] at ho45 | (simp only [Int.reduceToNat] at ho45; rw [← Ny165.out] at ho45)); have n0_ := Aside0.mk (Kd.R_below (by (with_reducible repeat (first | apply Kd.R_alloc | apply Kd.R_drewN | apply Kd.R_drew)); exact HO148.out) hb); have n1_ := Aside0.mk (Kd.R_below (by (with_reducible repeat (first | apply Kd.R_alloc | apply Kd.R_drewN | apply Kd.R_drew)); exact HO157.out) hb); have n2_ := Aside0.mk (Kd.R_below (by (with_reducible repeat (first | apply Kd.R_alloc | apply Kd.R_drewN | apply Kd.R_drew)); exact HO160.out) hb); have n3_ := Aside0.mk (Kd.R_lower ho45 (below_size (by repeat (first | (with_reducible first | exact HB.out | apply below_alloc | apply pw_below_drewN | apply below_drew1) | exact HB.out)))); have n4_ := Aside0.mk (below_step (by repeat (first | (with_reducible first | exact HB.out | apply below_alloc | apply pw_below_drewN | apply below_drew1) | exact HB.out)) hb); clear HO148; clear HO157; clear HO160; clear HB; have HO148 := n0_; have HO157 := n1_; have HO160 := n2_; have HO167 := n3_; have HB := n4_; clear n0_ n1_ n2_ n3_ n4_; clear hb ho45; obtain ⟨Ao46, co46, eo46⟩ := Kd.R_slice HO167.out; subst eo46) | ((with_reducible refine gate_callee (f := 10) rfl ?_); refine goesL_ (some 31) rfl rfl Tryd.func10 (by kernel_rfl) rfl #[.slice Ao46 y165.length co46, .int .i64 4] rfl (by (try simp only [List.map_toArray, List.map_cons, List.map_nil]); first | done | rfl | (simp only [List.length_drop, List.length_take]; rfl)) ?_; (with_reducible refine (leaps_Decode.calls k _ _ y165 4 t168 _ ?side1 ?side2 A5.out).mono ?_); (case side1 => repeat (first | exact (Kd.R_reads' HO167.out).2.2 | (with_reducible refine Kd.C_alloc ?_ _) | (with_reducible refine Kd.C_drewN ?_ _) | (with_reducible refine Kd.C_drew ?_))); (case side2 => exact (Kd.R_reads' HO167.out).2.1); rintro e w47 ⟨v169, rfl, ho0, hb⟩; refine ⟨_, rfl, ?_⟩; have n0_ := Aside0.mk (Kd.R_elder' (by (with_reducible repeat (first | apply Kd.R_alloc | apply Kd.R_drewN | apply Kd.R_drew)); exact HO148.out) (Kd.R_base ho0) hb); have n1_ := Aside0.mk (Kd.R_elder' (by (with_reducible repeat (first | apply Kd.R_alloc | apply Kd.R_drewN | apply Kd.R_drew)); exact HO157.out) (Kd.R_base ho0) hb); have n2_ := Aside0.mk (Kd.R_elder' (by (with_reducible repeat (first | apply Kd.R_alloc | apply Kd.R_drewN | apply Kd.R_drew)); exact HO160.out) (Kd.R_base ho0) hb); have n3_ := Aside0.mk (Kd.R_below (by (with_reducible repeat (first | apply Kd.R_alloc | apply Kd.R_drewN | apply Kd.R_drew)); exact HO167.out) hb); have n4_ := Aside0.mk (Kd.R_lower (Kd.R_new' (Kd.R_new' (Kd.R_new' ho0 (Kd.R_lt (by (with_reducible repeat (first | apply Kd.R_alloc | apply Kd.R_drewN | apply Kd.R_drew)); exact HO148.out))) (Kd.R_lt (by (with_reducible repeat (first | apply Kd.R_alloc | apply Kd.R_drewN | apply Kd.R_drew)); exact HO157.out))) (Kd.R_lt (by (with_reducible repeat (first | apply Kd.R_alloc | apply Kd.R_drewN | apply Kd.R_drew)); exact HO160.out))) (below_size (by repeat (first | (with_reducible first | exact HB.out | apply below_alloc | apply pw_below_drewN | apply below_drew1) | exact HB.out)))); have n5_ := Aside0.mk (below_step (by repeat (first | (with_reducible first | exact HB.out | apply below_alloc | apply pw_below_drewN | apply below_drew1) | exact HB.out)) hb); clear HO148; clear HO157; clear HO160; clear HO167; clear HB; have HO148 := n0_; have HO157 := n1_; have HO160 := n2_; have HO167 := n3_; have HO170 := n4_; have HB := n5_; clear n0_ n1_ n2_ n3_ n4_ n5_; (try clear hb); (try clear hb2); (try clear hk); (try clear hi); (try clear ho0)) | (go_at_call 15; (with_reducible refine (leaps_Valid.calls _ _ y146 1 true _ ?side1 ?side2 ?side3 A6.out).mono ?_); (case side1 => repeat (first | exact (Kd.R_reads' HO148.out).2.2 | (with_reducible refine Kd.C_alloc ?_ _) | (with_reducible refine Kd.C_drewN ?_ _) | (with_reducible refine Kd.C_drew ?_))); (case side2 => exact (Kd.R_reads' HO148.out).2.1); (case side3 => repeat (first | exact (Kd.C_below HRg.out HB.out) | (with_reducible refine Kd.C_alloc ?_ _) | (with_reducible refine Kd.C_drewN ?_ _) | (with_reducible refine Kd.C_drew ?_))); rintro e w48 ⟨rfl, hb⟩; have n0_ := Aside0.mk (Kd.R_below (by (with_reducible repeat (first | apply Kd.R_alloc | apply Kd.R_drewN | apply Kd.R_drew)); exact HO148.out) hb); have n1_ := Aside0.mk (Kd.R_below (by (with_reducible repeat (first | apply Kd.R_alloc | apply Kd.R_drewN | apply Kd.R_drew)); exact HO157.out) hb); have n2_ := Aside0.mk (Kd.R_below (by (with_reducible repeat (first | apply Kd.R_alloc | apply Kd.R_drewN | apply Kd.R_drew)); exact HO160.out) hb); have n3_ := Aside0.mk (Kd.R_below (by (with_reducible repeat (first | apply Kd.R_alloc | apply Kd.R_drewN | apply Kd.R_drew)); exact HO167.out) hb); have n4_ := Aside0.mk (Kd.R_below (by (with_reducible repeat (first | apply Kd.R_alloc | apply Kd.R_drewN | apply Kd.R_drew)); exact HO170.out) hb); have n5_ := Aside0.mk (below_step (by repeat (first | (with_reducible first | exact HB.out | apply below_alloc | apply pw_below_drewN | apply below_drew1) | exact HB.out)) hb); clear HO148; clear HO157; clear HO160; clear HO167; clear HO170; clear HB; have HO148 := n0_; have HO157 := n1_; have HO160 := n2_; have HO167 := n3_; have HO170 := n4_; have HB := n5_; clear n0_ n1_ n2_ n3_ n4_ n5_; (try clear hb); (try clear hb2); (try clear hk); (try clear hi)) | (go_at_call 15; refine calls_of_args (args' := #[.slice none ([] : List (S38)).length 0, .int .i64 1]) (by rfl) ?_; (with_reducible refine (leaps_Valid.calls _ _ ([] : List (S38)) 1 true _ ?side1 ?side2 ?side3 A8.out).mono ?_); (case side1 => exact Kd.C_nil _ _); (case side2 => exact Nat.le_refl _); (case side3 => repeat (first | exact (Kd.C_below HRg.out HB.out) | (with_reducible refine Kd.C_alloc ?_ _) | (with_reducible refine Kd.C_drewN ?_ _) | (with_reducible refine Kd.C_drew ?_))); rintro e w49 ⟨rfl, hb⟩; have n0_ := Aside0.mk (Kd.R_below (by (with_reducible repeat (first | apply Kd.R_alloc | apply Kd.R_drewN | apply Kd.R_drew)); exact HO148.out) hb); have n1_ := Aside0.mk (Kd.R_below (by (with_reducible repeat (first | apply Kd.R_alloc | apply Kd.R_drewN | apply Kd.R_drew)); exact HO157.out) hb); have n2_ := Aside0.mk (Kd.R_below (by (with_reducible repeat (first | apply Kd.R_alloc | apply Kd.R_drewN | apply Kd.R_drew)); exact HO160.out) hb); have n3_ := Aside0.mk (Kd.R_below (by (with_reducible repeat (first | apply Kd.R_alloc | apply Kd.R_drewN | apply Kd.R_drew)); exact HO167.out) hb); have n4_ := Aside0.mk (Kd.R_below (by (with_reducible repeat (first | apply Kd.R_alloc | apply Kd.R_drewN | apply Kd.R_drew)); exact HO170.out) hb); have n5_ := Aside0.mk (below_step (by repeat (first | (with_reducible first | exact HB.out | apply below_alloc | apply pw_below_drewN | apply below_drew1) | exact HB.out)) hb); clear HO148; clear HO157; clear HO160; clear HO167; clear HO170; clear HB; have HO148 := n0_; have HO157 := n1_; have HO160 := n2_; have HO167 := n3_; have HO170 := n4_; have HB := n5_; clear n0_ n1_ n2_ n3_ n4_ n5_; (try clear hb); (try clear hb2); (try clear hk); (try clear hi)) | (go_at_call 15; (with_reducible refine (leaps_Valid.calls _ _ y155 4 true _ ?side1 ?side2 ?side3 A10.out).mono ?_); (case side1 => repeat (first | exact (Kd.R_reads' HO157.out).2.2 | (with_reducible refine Kd.C_alloc ?_ _) | (with_reducible refine Kd.C_drewN ?_ _) | (with_reducible refine Kd.C_drew ?_))); (case side2 => exact (Kd.R_reads' HO157.out).2.1); (case side3 => repeat (first | exact (Kd.C_below HRg.out HB.out) | (with_reducible refine Kd.C_alloc ?_ _) | (with_reducible refine Kd.C_drewN ?_ _) | (with_reducible refine Kd.C_drew ?_))); rintro e w50 ⟨rfl, hb⟩; have n0_ := Aside0.mk (Kd.R_below (by (with_reducible repeat (first | apply Kd.R_alloc | apply Kd.R_drewN | apply Kd.R_drew)); exact HO148.out) hb); have n1_ := Aside0.mk (Kd.R_below (by (with_reducible repeat (first | apply Kd.R_alloc | apply Kd.R_drewN | apply Kd.R_drew)); exact HO157.out) hb); have n2_ := Aside0.mk (Kd.R_below (by (with_reducible repeat (first | apply Kd.R_alloc | apply Kd.R_drewN | apply Kd.R_drew)); exact HO160.out) hb); have n3_ := Aside0.mk (Kd.R_below (by (with_reducible repeat (first | apply Kd.R_alloc | apply Kd.R_drewN | apply Kd.R_drew)); exact HO167.out) hb); have n4_ := Aside0.mk (Kd.R_below (by (with_reducible repeat (first | apply Kd.R_alloc | apply Kd.R_drewN | apply Kd.R_drew)); exact HO170.out) hb); have n5_ := Aside0.mk (below_step (by repeat (first | (with_reducible first | exact HB.out | apply below_alloc | apply pw_below_drewN | apply below_drew1) | exact HB.out)) hb); clear HO148; clear HO157; clear HO160; clear HO167; clear HO170; clear HB; have HO148 := n0_; have HO157 := n1_; have HO160 := n2_; have HO167 := n3_; have HO170 := n4_; have HB := n5_; clear n0_ n1_ n2_ n3_ n4_ n5_; (try clear hb); (try clear hb2); (try clear hk); (try clear hi)) | (go_at_call 15; (with_reducible refine (leaps_Valid.calls _ _ y155 3 false _ ?side1 ?side2 ?side3 A12.out).mono ?_); (case side1 => repeat (first | exact (Kd.R_reads' HO157.out).2.2 | (with_reducible refine Kd.C_alloc ?_ _) | (with_reducible refine Kd.C_drewN ?_ _) | (with_reducible refine Kd.C_drew ?_))); (case side2 => exact (Kd.R_reads' HO157.out).2.1); (case side3 => repeat (first | exact (Kd.C_below HRg.out HB.out) | (with_reducible refine Kd.C_alloc ?_ _) | (with_reducible refine Kd.C_drewN ?_ _) | (with_reducible refine Kd.C_drew ?_))); rintro e w51 ⟨rfl, hb⟩; have n0_ := Aside0.mk (Kd.R_below (by (with_reducible repeat (first | apply Kd.R_alloc | apply Kd.R_drewN | apply Kd.R_drew)); exact HO148.out) hb); have n1_ := Aside0.mk (Kd.R_below (by (with_reducible repeat (first | apply Kd.R_alloc | apply Kd.R_drewN | apply Kd.R_drew)); exact HO157.out) hb); have n2_ := Aside0.mk (Kd.R_below (by (with_reducible repeat (first | apply Kd.R_alloc | apply Kd.R_drewN | apply Kd.R_drew)); exact HO160.out) hb); have n3_ := Aside0.mk (Kd.R_below (by (with_reducible repeat (first | apply Kd.R_alloc | apply Kd.R_drewN | apply Kd.R_drew)); exact HO167.out) hb); have n4_ := Aside0.mk (Kd.R_below (by (with_reducible repeat (first | apply Kd.R_alloc | apply Kd.R_drewN | apply Kd.R_drew)); exact HO170.out) hb); have n5_ := Aside0.mk (below_step (by repeat (first | (with_reducible first | exact HB.out | apply below_alloc | apply pw_below_drewN | apply below_drew1) | exact HB.out)) hb); clear HO148; clear HO157; clear HO160; clear HO167; clear HO170; clear HB; have HO148 := n0_; have HO157 := n1_; have HO160 := n2_; have HO167 := n3_; have HO170 := n4_; have HB := n5_; clear n0_ n1_ n2_ n3_ n4_ n5_; (try clear hb); (try clear hb2); (try clear hk); (try clear hi)) | (go_at_call 17; (with_reducible refine (leaps_NeedsV4.calls _ _ y155 true _ ?side1 ?side2 ?side3 A14.out).mono ?_); (case side1 => repeat (first | exact (Kd.R_reads' HO157.out).2.2 | (with_reducible refine Kd.C_alloc ?_ _) | (with_reducible refine Kd.C_drewN ?_ _) | (with_reducible refine Kd.C_drew ?_))); (case side2 => exact (Kd.R_reads' HO157.out).2.1); (case side3 => repeat (first | exact (Kd.C_below HRg.out HB.out) | (with_reducible refine Kd.C_alloc ?_ _) | (with_reducible refine Kd.C_drewN ?_ _) | (with_reducible refine Kd.C_drew ?_))); rintro e w52 ⟨rfl, hb⟩; have n0_ := Aside0.mk (Kd.R_below (by (with_reducible repeat (first | apply Kd.R_alloc | apply Kd.R_drewN | apply Kd.R_drew)); exact HO148.out) hb); have n1_ := Aside0.mk (Kd.R_below (by (with_reducible repeat (first | apply Kd.R_alloc | apply Kd.R_drewN | apply Kd.R_drew)); exact HO157.out) hb); have n2_ := Aside0.mk (Kd.R_below (by (with_reducible repeat (first | apply Kd.R_alloc | apply Kd.R_drewN | apply Kd.R_drew)); exact HO160.out) hb); have n3_ := Aside0.mk (Kd.R_below (by (with_reducible repeat (first | apply Kd.R_alloc | apply Kd.R_drewN | apply Kd.R_drew)); exact HO167.out) hb); have n4_ := Aside0.mk (Kd.R_below (by (with_reducible repeat (first | apply Kd.R_alloc | apply Kd.R_drewN | apply Kd.R_drew)); exact HO170.out) hb); have n5_ := Aside0.mk (below_step (by repeat (first | (with_reducible first | exact HB.out | apply below_alloc | apply pw_below_drewN | apply below_drew1) | exact HB.out)) hb); clear HO148; clear HO157; clear HO160; clear HO167; clear HO170; clear HB; have HO148 := n0_; have HO157 := n1_; have HO160 := n2_; have HO167 := n3_; have HO170 := n4_; have HB := n5_; clear n0_ n1_ n2_ n3_ n4_ n5_; (try clear hb); (try clear hb2); (try clear hk); (try clear hi)) | (go_at_call 17; (with_reducible refine (leaps_NeedsV4.calls _ _ y146 false _ ?side1 ?side2 ?side3 A16.out).mono ?_); (case side1 => repeat (first | exact (Kd.R_reads' HO148.out).2.2 | (with_reducible refine Kd.C_alloc ?_ _) | (with_reducible refine Kd.C_drewN ?_ _) | (with_reducible refine Kd.C_drew ?_))); (case side2 => exact (Kd.R_reads' HO148.out).2.1); (case side3 => repeat (first | exact (Kd.C_below HRg.out HB.out) | (with_reducible refine Kd.C_alloc ?_ _) | (with_reducible refine Kd.C_drewN ?_ _) | (with_reducible refine Kd.C_drew ?_))); rintro e w53 ⟨rfl, hb⟩; have n0_ := Aside0.mk (Kd.R_below (by (with_reducible repeat (first | apply Kd.R_alloc | apply Kd.R_drewN | apply Kd.R_drew)); exact HO148.out) hb); have n1_ := Aside0.mk (Kd.R_below (by (with_reducible repeat (first | apply Kd.R_alloc | apply Kd.R_drewN | apply Kd.R_drew)); exact HO157.out) hb); have n2_ := Aside0.mk (Kd.R_below (by (with_reducible repeat (first | apply Kd.R_alloc | apply Kd.R_drewN | apply Kd.R_drew)); exact HO160.out) hb); have n3_ := Aside0.mk (Kd.R_below (by (with_reducible repeat (first | apply Kd.R_alloc | apply Kd.R_drewN | apply Kd.R_drew)); exact HO167.out) hb); have n4_ := Aside0.mk (Kd.R_below (by (with_reducible repeat (first | apply Kd.R_alloc | apply Kd.R_drewN | apply Kd.R_drew)); exact HO170.out) hb); have n5_ := Aside0.mk (below_step (by repeat (first | (with_reducible first | exact HB.out | apply below_alloc | apply pw_below_drewN | apply below_drew1) | exact HB.out)) hb); clear HO148; clear HO157; clear HO160; clear HO167; clear HO170; clear HB; have HO148 := n0_; have HO157 := n1_; have HO160 := n2_; have HO167 := n3_; have HO170 := n4_; have HB := n5_; clear n0_ n1_ n2_ n3_ n4_ n5_; (try clear hb); (try clear hb2); (try clear hk); (try clear hi); obtain ⟨Ao54, co54, eo54⟩ := Kd.R_slice HO160.out; subst eo54) | (go_at_call 17; (with_reducible refine (leaps_NeedsV4.calls _ _ y158 true _ ?side1 ?side2 ?side3 A18.out).mono ?_); (case side1 => repeat (first | exact (Kd.R_reads' HO160.out).2.2 | (with_reducible refine Kd.C_alloc ?_ _) | (with_reducible refine Kd.C_drewN ?_ _) | (with_reducible refine Kd.C_drew ?_))); (case side2 => exact (Kd.R_reads' HO160.out).2.1); (case side3 => repeat (first | exact (Kd.C_below HRg.out HB.out) | (with_reducible refine Kd.C_alloc ?_ _) | (with_reducible refine Kd.C_drewN ?_ _) | (with_reducible refine Kd.C_drew ?_))); rintro e w55 ⟨rfl, hb⟩; have n0_ := Aside0.mk (Kd.R_below (by (with_reducible repeat (first | apply Kd.R_alloc | apply Kd.R_drewN | apply Kd.R_drew)); exact HO148.out) hb); have n1_ := Aside0.mk (Kd.R_below (by (with_reducible repeat (first | apply Kd.R_alloc | apply Kd.R_drewN | apply Kd.R_drew)); exact HO157.out) hb); have n2_ := Aside0.mk (Kd.R_below (by (with_reducible repeat (first | apply Kd.R_alloc | apply Kd.R_drewN | apply Kd.R_drew)); exact HO160.out) hb); have n3_ := Aside0.mk (Kd.R_below (by (with_reducible repeat (first | apply Kd.R_alloc | apply Kd.R_drewN | apply Kd.R_drew)); exact HO167.out) hb); have n4_ := Aside0.mk (Kd.R_below (by (with_reducible repeat (first | apply Kd.R_alloc | apply Kd.R_drewN | apply Kd.R_drew)); exact HO170.out) hb); have n5_ := Aside0.mk (below_step (by repeat (first | (with_reducible first | exact HB.out | apply below_alloc | apply pw_below_drewN | apply below_drew1) | exact HB.out)) hb); clear HO148; clear HO157; clear HO160; clear HO167; clear HO170; clear HB; have HO148 := n0_; have HO157 := n1_; have HO160 := n2_; have HO167 := n3_; have HO170 := n4_; have HB := n5_; clear n0_ n1_ n2_ n3_ n4_ n5_; (try clear hb); (try clear hb2); (try clear hk); (try clear hi)) | ((with_reducible refine gate_dst (N := 61) rfl ?_); (try (refine gate_guard (by rfl) ?_; dsimp only)); refine Kd.R_lit k38 _ 38 ?hg (N := 61) ?hd (xs := ([(⟨(-1), 1⟩ : S38)] : List (S38))) (inner := [.int .i64 (-1), .int .i32 1]) (ok := fun _ => True) (okp := fun _ => True) ?hr ?hp (fun _ hk => hk) trivial (Below.refl _ _) (Nat.le_refl _) (by simp) ?_; (case hd => rfl); (case hg => rfl); (case hr => first | (go_simp; done) | (go_simp; rfl)); (case hp => exact (Reps.c2 (show Kd.M k38 _ _ _ (⟨(-1), 1⟩ : S38) [.int .i64 (-1), .int .i32 1] from (k38_mkM _ _ _ (⟨(-1), 1⟩ : S38) )) (Reps.none _ _))); intro v179 w56 ho57 hb hg_ hnew_; clear hg_ hnew_; (first | rw [← Ny178.out] at ho57 | (simp only [Int.reduceToNat] at ho57; rw [← Ny178.out] at ho57)); have n0_ := Aside0.mk (Kd.R_elder' (by (with_reducible repeat (first | apply Kd.R_alloc | apply Kd.R_drewN | apply Kd.R_drew)); exact HO148.out) (Kd.R_base ho57) hb); have n1_ := Aside0.mk (Kd.R_elder' (by (with_reducible repeat (first | apply Kd.R_alloc | apply Kd.R_drewN | apply Kd.R_drew)); exact HO157.out) (Kd.R_base ho57) hb); have n2_ := Aside0.mk (Kd.R_elder' (by (with_reducible repeat (first | apply Kd.R_alloc | apply Kd.R_drewN | apply Kd.R_drew)); exact HO160.out) (Kd.R_base ho57) hb); have n3_ := Aside0.mk (Kd.R_below (by (with_reducible repeat (first | apply Kd.R_alloc | apply Kd.R_drewN | apply Kd.R_drew)); exact HO167.out) hb); have n4_ := Aside0.mk (Kd.R_elder' (by (with_reducible repeat (first | apply Kd.R_alloc | apply Kd.R_drewN | apply Kd.R_drew)); exact HO170.out) (Kd.R_base ho57) hb); have n5_ := Aside0.mk (Kd.R_lower (Kd.R_new' (Kd.R_new' (Kd.R_new' (Kd.R_new' ho57 (Kd.R_lt (by (with_reducible repeat (first | apply Kd.R_alloc | apply Kd.R_drewN | apply Kd.R_drew)); exact HO148.out))) (Kd.R_lt (by (with_reducible repeat (first | apply Kd.R_alloc | apply Kd.R_drewN | apply Kd.R_drew)); exact HO157.out))) (Kd.R_lt (by (with_reducible repeat (first | apply Kd.R_alloc | apply Kd.R_drewN | apply Kd.R_drew)); exact HO160.out))) (Kd.R_lt (by (with_reducible repeat (first | apply Kd.R_alloc | apply Kd.R_drewN | apply Kd.R_drew)); exact HO170.out))) (below_size (by repeat (first | (with_reducible first | exact HB.out | apply below_alloc | apply pw_below_drewN | apply below_drew1) | exact HB.out)))); have n6_ := Aside0.mk (below_step (by repeat (first | (with_reducible first | exact HB.out | apply below_alloc | apply pw_below_drewN | apply below_drew1) | exact HB.out)) hb); clear HO148; clear HO157; clear HO160; clear HO167; clear HO170; clear HB; have HO148 := n0_; have HO157 := n1_; have HO160 := n2_; have HO167 := n3_; have HO170 := n4_; have HO180 := n5_; have HB := n6_; clear n0_ n1_ n2_ n3_ n4_ n5_ n6_; clear hb ho57; obtain ⟨Ao58, co58, eo58⟩ := Kd.R_slice HO180.out; subst eo58) | (go_at_call 15; (with_reducible refine (leaps_Valid.calls _ _ y178 4 false _ ?side1 ?side2 ?side3 A20.out).mono ?_); (case side1 => repeat (first | exact (Kd.R_reads' HO180.out).2.2 | (with_reducible refine Kd.C_alloc ?_ _) | (with_reducible refine Kd.C_drewN ?_ _) | (with_reducible refine Kd.C_drew ?_))); (case side2 => exact (Kd.R_reads' HO180.out).2.1); (case side3 => repeat (first | exact (Kd.C_below HRg.out HB.out) | (with_reducible refine Kd.C_alloc ?_ _) | (with_reducible refine Kd.C_drewN ?_ _) | (with_reducible refine Kd.C_drew ?_))); rintro e w59 ⟨rfl, hb⟩; have n0_ := Aside0.mk (Kd.R_below (by (with_reducible repeat (first | apply Kd.R_alloc | apply Kd.R_drewN | apply Kd.R_drew)); exact HO148.out) hb); have n1_ := Aside0.mk (Kd.R_below (by (with_reducible repeat (first | apply Kd.R_alloc | apply Kd.R_drewN | apply Kd.R_drew)); exact HO157.out) hb); have n2_ := Aside0.mk (Kd.R_below (by (with_reducible repeat (first | apply Kd.R_alloc | apply Kd.R_drewN | apply Kd.R_drew)); exact HO160.out) hb); have n3_ := Aside0.mk (Kd.R_below (by (with_reducible repeat (first | apply Kd.R_alloc | apply Kd.R_drewN | apply Kd.R_drew)); exact HO167.out) hb); have n4_ := Aside0.mk (Kd.R_below (by (with_reducible repeat (first | apply Kd.R_alloc | apply Kd.R_drewN | apply Kd.R_drew)); exact HO170.out) hb); have n5_ := Aside0.mk (Kd.R_below (by (with_reducible repeat (first | apply Kd.R_alloc | apply Kd.R_drewN | apply Kd.R_drew)); exact HO180.out) hb); have n6_ := Aside0.mk (below_step (by repeat (first | (with_reducible first | exact HB.out | apply below_alloc | apply pw_below_drewN | apply below_drew1) | exact HB.out)) hb); clear HO148; clear HO157; clear HO160; clear HO167; clear HO170; clear HO180; clear HB; have HO148 := n0_; have HO157 := n1_; have HO160 := n2_; have HO167 := n3_; have HO170 := n4_; have HO180 := n5_; have HB := n6_; clear n0_ n1_ n2_ n3_ n4_ n5_ n6_; (try clear hb); (try clear hb2); (try clear hk); (try clear hi)) | (go_at_call 21; (with_reducible refine (leaps_Correction.calls k _ _ y146 94694400 t182 _ ?side1 ?side2 A25.out).mono ?_); (case side1 => repeat (first | exact (Kd.R_reads' HO148.out).2.2 | (with_reducible refine Kd.C_alloc ?_ _) | (with_reducible refine Kd.C_drewN ?_ _) | (with_reducible refine Kd.C_drew ?_))); (case side2 => exact (Kd.R_reads' HO148.out).2.1); rintro e w60 ⟨rfl, hb⟩; have n0_ := Aside0.mk (Kd.R_below (by (with_reducible repeat (first | apply Kd.R_alloc | apply Kd.R_drewN | apply Kd.R_drew)); exact HO148.out) hb); have n1_ := Aside0.mk (Kd.R_below (by (with_reducible repeat (first | apply Kd.R_alloc | apply Kd.R_drewN | apply Kd.R_drew)); exact HO157.out) hb); have n2_ := Aside0.mk (Kd.R_below (by (with_reducible repeat (first | apply Kd.R_alloc | apply Kd.R_drewN | apply Kd.R_drew)); exact HO160.out) hb); have n3_ := Aside0.mk (Kd.R_below (by (with_reducible repeat (first | apply Kd.R_alloc | apply Kd.R_drewN | apply Kd.R_drew)); exact HO167.out) hb); have n4_ := Aside0.mk (Kd.R_below (by (with_reducible repeat (first | apply Kd.R_alloc | apply Kd.R_drewN | apply Kd.R_drew)); exact HO170.out) hb); have n5_ := Aside0.mk (Kd.R_below (by (with_reducible repeat (first | apply Kd.R_alloc | apply Kd.R_drewN | apply Kd.R_drew)); exact HO180.out) hb); have n6_ := Aside0.mk (below_step (by repeat (first | (with_reducible first | exact HB.out | apply below_alloc | apply pw_below_drewN | apply below_drew1) | exact HB.out)) hb); clear HO148; clear HO157; clear HO160; clear HO167; clear HO170; clear HO180; clear HB; have HO148 := n0_; have HO157 := n1_; have HO160 := n2_; have HO167 := n3_; have HO170 := n4_; have HO180 := n5_; have HB := n6_; clear n0_ n1_ n2_ n3_ n4_ n5_ n6_; (try clear hb); (try clear hb2); (try clear hk); (try clear hi)) | (go_at_call 21; (with_reducible refine (leaps_Correction.calls k _ _ y146 94694401 t183 _ ?side1 ?side2 A27.out).mono ?_); (case side1 => repeat (first | exact (Kd.R_reads' HO148.out).2.2 | (with_reducible refine Kd.C_alloc ?_ _) | (with_reducible refine Kd.C_drewN ?_ _) | (with_reducible refine Kd.C_drew ?_))); (case side2 => exact (Kd.R_reads' HO148.out).2.1); rintro e w61 ⟨rfl, hb⟩; have n0_ := Aside0.mk (Kd.R_below (by (with_reducible repeat (first | apply Kd.R_alloc | apply Kd.R_drewN | apply Kd.R_drew)); exact HO148.out) hb); have n1_ := Aside0.mk (Kd.R_below (by (with_reducible repeat (first | apply Kd.R_alloc | apply Kd.R_drewN | apply Kd.R_drew)); exact HO157.out) hb); have n2_ := Aside0.mk (Kd.R_below (by (with_reducible repeat (first | apply Kd.R_alloc | apply Kd.R_drewN | apply Kd.R_drew)); exact HO160.out) hb); have n3_ := Aside0.mk (Kd.R_below (by (with_reducible repeat (first | apply Kd.R_alloc | apply Kd.R_drewN | apply Kd.R_drew)); exact HO167.out) hb); have n4_ := Aside0.mk (Kd.R_below (by (with_reducible repeat (first | apply Kd.R_alloc | apply Kd.R_drewN | apply Kd.R_drew)); exact HO170.out) hb); have n5_ := Aside0.mk (Kd.R_below (by (with_reducible repeat (first | apply Kd.R_alloc | apply Kd.R_drewN | apply Kd.R_drew)); exact HO180.out) hb); have n6_ := Aside0.mk (below_step (by repeat (first | (with_reducible first | exact HB.out | apply below_alloc | apply pw_below_drewN | apply below_drew1) | exact HB.out)) hb); clear HO148; clear HO157; clear HO160; clear HO167; clear HO170; clear HO180; clear HB; have HO148 := n0_; have HO157 := n1_; have HO160 := n2_; have HO167 := n3_; have HO170 := n4_; have HO180 := n5_; have HB := n6_; clear n0_ n1_ n2_ n3_ n4_ n5_ n6_; (try clear hb); (try clear hb2); (try clear hk); (try clear hi)) | (go_at_call 21; (with_reducible refine (leaps_Correction.calls k _ _ y146 0 t184 _ ?side1 ?side2 A29.out).mono ?_); (case side1 => repeat (first | exact (Kd.R_reads' HO148.out).2.2 | (with_reducible refine Kd.C_alloc ?_ _) | (with_reducible refine Kd.C_drewN ?_ _) | (with_reducible refine Kd.C_drew ?_))); (case side2 => exact (Kd.R_reads' HO148.out).2.1); rintro e w62 ⟨rfl, hb⟩; have n0_ := Aside0.mk (Kd.R_below (by (with_reducible repeat (first | apply Kd.R_alloc | apply Kd.R_drewN | apply Kd.R_drew)); exact HO148.out) hb); have n1_ := Aside0.mk (Kd.R_below (by (with_reducible repeat (first | apply Kd.R_alloc | apply Kd.R_drewN | apply Kd.R_drew)); exact HO157.out) hb); have n2_ := Aside0.mk (Kd.R_below (by (with_reducible repeat (first | apply Kd.R_alloc | apply Kd.R_drewN | apply Kd.R_drew)); exact HO160.out) hb); have n3_ := Aside0.mk (Kd.R_below (by (with_reducible repeat (first | apply Kd.R_alloc | apply Kd.R_drewN | apply Kd.R_drew)); exact HO167.out) hb); have n4_ := Aside0.mk (Kd.R_below (by (with_reducible repeat (first | apply Kd.R_alloc | apply Kd.R_drewN | apply Kd.R_drew)); exact HO170.out) hb); have n5_ := Aside0.mk (Kd.R_below (by (with_reducible repeat (first | apply Kd.R_alloc | apply Kd.R_drewN | apply Kd.R_drew)); exact HO180.out) hb); have n6_ := Aside0.mk (below_step (by repeat (first | (with_reducible first | exact HB.out | apply below_alloc | apply pw_below_drewN | apply below_drew1) | exact HB.out)) hb); clear HO148; clear HO157; clear HO160; clear HO167; clear HO170; clear HO180; clear HB; have HO148 := n0_; have HO157 := n1_; have HO160 := n2_; have HO167 := n3_; have HO170 := n4_; have HO180 := n5_; have HB := n6_; clear n0_ n1_ n2_ n3_ n4_ n5_ n6_; (try clear hb); (try clear hb2); (try clear hk); (try clear hi)) | ((with_reducible refine gate_dst (N := 94) rfl ?_); (try (refine gate_guard (by rfl) ?_; dsimp only)); refine Kd.R_lit k38 _ 38 ?hg (N := 94) ?hd (xs := ([(⟨5, (-1)⟩ : S38)] : List (S38))) (inner := [.int .i64 5, .int .i32 (-1)]) (ok := fun _ => True) (okp := fun _ => True) ?hr ?hp (fun _ hk => hk) trivial (Below.refl _ _) (Nat.le_refl _) (by simp) ?_; (case hd => rfl); (case hg => rfl); (case hr => first | (go_simp; done) | (go_simp; rfl)); (case hp => exact (Reps.c2 (show Kd.M k38 _ _ _ (⟨5, (-1)⟩ : S38) [.int .i64 5, .int .i32 (-1)] from (k38_mkM _ _ _ (⟨5, (-1)⟩ : S38) )) (Reps.none _ _))); intro v186 w63 ho64 hb hg_ hnew_; clear hg_ hnew_; (first | rw [← Ny185.out] at ho64 | (simp only [Int.reduceToNat] at ho64; rw [← Ny185.out] at ho64)); have n0_ := Aside0.mk (Kd.R_elder' (by (with_reducible repeat (first | apply Kd.R_alloc | apply Kd.R_drewN | apply Kd.R_drew)); exact HO148.out) (Kd.R_base ho64) hb); have n1_ := Aside0.mk (Kd.R_elder' (by (with_reducible repeat (first | apply Kd.R_alloc | apply Kd.R_drewN | apply Kd.R_drew)); exact HO157.out) (Kd.R_base ho64) hb); have n2_ := Aside0.mk (Kd.R_elder' (by (with_reducible repeat (first | apply Kd.R_alloc | apply Kd.R_drewN | apply Kd.R_drew)); exact HO160.out) (Kd.R_base ho64) hb); have n3_ := Aside0.mk (Kd.R_below (by (with_reducible repeat (first | apply Kd.R_alloc | apply Kd.R_drewN | apply Kd.R_drew)); exact HO167.out) hb); have n4_ := Aside0.mk (Kd.R_elder' (by (with_reducible repeat (first | apply Kd.R_alloc | apply Kd.R_drewN | apply Kd.R_drew)); exact HO170.out) (Kd.R_base ho64) hb); have n5_ := Aside0.mk (Kd.R_elder' (by (with_reducible repeat (first | apply Kd.R_alloc | apply Kd.R_drewN | apply Kd.R_drew)); exact HO180.out) (Kd.R_base ho64) hb); have n6_ := Aside0.mk (Kd.R_lower (Kd.R_new' (Kd.R_new' (Kd.R_new' (Kd.R_new' (Kd.R_new' ho64 (Kd.R_lt (by (with_reducible repeat (first | apply Kd.R_alloc | apply Kd.R_drewN | apply Kd.R_drew)); exact HO148.out))) (Kd.R_lt (by (with_reducible repeat (first | apply Kd.R_alloc | apply Kd.R_drewN | apply Kd.R_drew)); exact HO157.out))) (Kd.R_lt (by (with_reducible repeat (first | apply Kd.R_alloc | apply Kd.R_drewN | apply Kd.R_drew)); exact HO160.out))) (Kd.R_lt (by (with_reducible repeat (first | apply Kd.R_alloc | apply Kd.R_drewN | apply Kd.R_drew)); exact HO170.out))) (Kd.R_lt (by (with_reducible repeat (first | apply Kd.R_alloc | apply Kd.R_drewN | apply Kd.R_drew)); exact HO180.out))) (below_size (by repeat (first | (with_reducible first | exact HB.out | apply below_alloc | apply pw_below_drewN | apply below_drew1) | exact HB.out)))); have n7_ := Aside0.mk (below_step (by repeat (first | (with_reducible first | exact HB.out | apply below_alloc | apply pw_below_drewN | apply below_drew1) | exact HB.out)) hb); clear HO148; clear HO157; clear HO160; clear HO167; clear HO170; clear HO180; clear HB; have HO148 := n0_; have HO157 := n1_; have HO160 := n2_; have HO167 := n3_; have HO170 := n4_; have HO180 := n5_; have HO187 := n6_; have HB := n7_; clear n0_ n1_ n2_ n3_ n4_ n5_ n6_ n7_; clear hb ho64; obtain ⟨Ao65, co65, eo65⟩ := Kd.R_slice HO170.out; subst eo65; obtain ⟨Ao66, co66, eo66⟩ := Kd.R_slice HO187.out; subst eo66) | (go_at_call 9; (with_reducible refine (zoneinforef17_Same.calls k _ _ t168 _ _ y185 true _ ?side1 ?side2 ?side3 ?side4 A31.out).mono ?_); (case side1 => repeat (first | exact (Kd.R_reads' HO170.out).2.2 | (with_reducible refine Kd.C_alloc ?_ _) | (with_reducible refine Kd.C_drewN ?_ _) | (with_reducible refine Kd.C_drew ?_))); (case side2 => exact (Kd.R_reads' HO170.out).2.1); (case side3 => repeat (first | exact (Kd.R_reads' HO187.out).2.2 | (with_reducible refine Kd.C_alloc ?_ _) | (with_reducible refine Kd.C_drewN ?_ _) | (with_reducible refine Kd.C_drew ?_))); (case side4 => exact (Kd.R_reads' HO187.out).2.1); rintro e w' ⟨rfl, ⟨nd, rfl⟩⟩) | (go_at_call 13; (with_reducible refine (leaps_Encode.calls k _ _ y146 8 t189 _ ?side1 ?side2 A33.out).mono ?_); (case side1 => repeat (first | exact (Kd.R_reads' HO148.out).2.2 | (with_reducible refine Kd.C_alloc ?_ _) | (with_reducible refine Kd.C_drewN ?_ _) | (with_reducible refine Kd.C_drew ?_))); (case side2 => exact (Kd.R_reads' HO148.out).2.1); rintro e w67 ⟨v190, rfl, ho0, hb⟩; have n0_ := Aside0.mk (Kd.R_below (by (with_reducible repeat (first | apply Kd.R_alloc | apply Kd.R_drewN | apply Kd.R_drew)); exact HO148.out) hb); have n1_ := Aside0.mk (Kd.R_below (by (with_reducible repeat (first | apply Kd.R_alloc | apply Kd.R_drewN | apply Kd.R_drew)); exact HO157.out) hb); have n2_ := Aside0.mk (Kd.R_below (by (with_reducible repeat (first | apply Kd.R_alloc | apply Kd.R_drewN | apply Kd.R_drew)); exact HO160.out) hb); have n3_ := Aside0.mk (Kd.R_elder' (by (with_reducible repeat (first | apply Kd.R_alloc | apply Kd.R_drewN | apply Kd.R_drew)); exact HO167.out) (Kd.R_base ho0) hb); have n4_ := Aside0.mk (Kd.R_below (by (with_reducible repeat (first | apply Kd.R_alloc | apply Kd.R_drewN | apply Kd.R_drew)); exact HO170.out) hb); have n5_ := Aside0.mk (Kd.R_below (by (with_reducible repeat (first | apply Kd.R_alloc | apply Kd.R_drewN | apply Kd.R_drew)); exact HO180.out) hb); have n6_ := Aside0.mk (Kd.R_below (by (with_reducible repeat (first | apply Kd.R_alloc | apply Kd.R_drewN | apply Kd.R_drew)); exact HO187.out) hb); have n7_ := Aside0.mk (Kd.R_lower (Kd.R_new' ho0 (Kd.R_lt (by (with_reducible repeat (first | apply Kd.R_alloc | apply Kd.R_drewN | apply Kd.R_drew)); exact HO167.out))) (below_size (by repeat (first | (with_reducible first | exact HB.out | apply below_alloc | apply pw_below_drewN | apply below_drew1) | exact HB.out)))); have n8_ := Aside0.mk (below_step (by repeat (first | (with_reducible first | exact HB.out | apply below_alloc | apply pw_below_drewN | apply below_drew1) | exact HB.out)) hb); clear HO148; clear HO157; clear HO160; clear HO167; clear HO170; clear HO180; clear HO187; clear HB; have HO148 := n0_; have HO157 := n1_; have HO160 := n2_; have HO167 := n3_; have HO170 := n4_; have HO180 := n5_; have HO187 := n6_; have HO191 := n7_; have HB := n8_; clear n0_ n1_ n2_ n3_ n4_ n5_ n6_ n7_ n8_; (try clear hb); (try clear hb2); (try clear hk); (try clear hi); (try clear ho0); obtain ⟨Ao68, co68, eo68⟩ := Kd.R_slice HO191.out; subst eo68))
                                    go_ret
                                    exact ⟨by first | rfl | (simp [errW_none, errW_some] <;> rfl) | (simp [*, errW_none, errW_some] <;> rfl), by repeat (first | (with_reducible first | exact HB.out | apply below_alloc | apply pw_below_drewN | apply below_drew1) | exact HB.out)⟩
                                  · replace c32 := Bool.eq_false_iff.mpr c32
                                    subst c32
                                    have H1 : (none) = some r := by rw [if_neg (show ¬ (false = true) by decide)] at H; exact H
                                    clear H
                                    have H := H1
                                    clear H1
                                    exact absurd H (by simp)
                                · rw [if_neg c30] at H
                                  exact absurd H (by simp)
                              · rw [if_neg c28] at H
                                exact absurd H (by simp)
                            · rw [if_neg c26] at H
                              exact absurd H (by simp)
                        · replace c23 := Bool.eq_false_iff.mpr c23
                          subst c23
                          have H1 : (none) = some r := by rw [if_neg (show ¬ (false = true) by decide)] at H; exact H
                          clear H
                          have H := H1
                          clear H1
                          exact absurd H (by simp)
                      · rw [if_neg c22] at H
                        exact absurd H (by simp)
                  · replace c19 := Bool.eq_false_iff.mpr c19
                    subst c19
                    have H1 : (none) = some r := by rw [if_neg (show ¬ (false = true) by decide)] at H; exact H
                    clear H
                    have H := H1
                    clear H1
                    exact absurd H (by simp)
              · replace c15 := Bool.eq_false_iff.mpr c15
                subst c15
                have H1 : (none) = some r := by rw [if_neg (show ¬ (false = true) by decide)] at H; exact H
                clear H
                have H := H1
                clear H1
                exact absurd H (by simp)
          · replace c11 := Bool.eq_false_iff.mpr c11
            subst c11
            have H1 : (none) = some r := by rw [if_neg (show ¬ (false = true) by decide)] at H; exact H
            clear H
            have H := H1
            clear H1
            exact absurd H (by simp)
        · replace c9 := Bool.eq_false_iff.mpr c9
          subst c9
          have H1 : (none) = some r := by rw [if_neg (show ¬ (false = true) by decide)] at H; exact H
          clear H
          have H := H1
          clear H1
          exact absurd H (by simp)
      · replace c7 := Bool.eq_false_iff.mpr c7
        subst c7
        have H1 : (none) = some r := by rw [if_neg (show ¬ (false = true) by decide)] at H; exact H
        clear H
        have H := H1
        clear H1
        exact absurd H (by simp)
    · rw [if_neg c2] at H
      exact absurd H (by simp)
  · rw [if_neg c1] at H
    exact absurd H (by simp)

/-! ### zoneinforef14_Size: function 8 -/
def zoneinforef14_Size.f (a0 : Bool) : Option (Int) := if a0 = true then (some 8) else (some 4)
set_option maxHeartbeats 8000000 in
set_option maxRecDepth 100000 in
theorem zoneinforef14_Size.calls (a0 : Bool) (r : Int) (w : World) (h : zoneinforef14_Size.f a0 = some r) :
    Calls Tryd.prog 8 #[.bool a0] w fun e w' => e = .returned (.int .i64 r) ∧ Drawn0 w w' := by
  have H : (if a0 = true then (some 8) else (some 4)) = some r := h
  clear h
  by_cases c2 : a0 = true
  · subst c2
    have H1 : (some 8) = some r := by rw [if_pos rfl] at H; exact H
    clear H
    have H := H1
    clear H1
    obtain rfl := Option.some.inj H
    go_enter Tryd.func8, Tryd.ntmps8
    go_wp2
    go_ret
    exact ⟨by first | rfl | (simp; done) | (simp [*]; done), by repeat (first | exact Drawn0.refl _ | apply Drawn0.step)⟩
  · replace c2 := Bool.eq_false_iff.mpr c2
    subst c2
    have H1 : (some 4) = some r := by rw [if_neg (show ¬ (false = true) by decide)] at H; exact H
    clear H
    have H := H1
    clear H1
    obtain rfl := Option.some.inj H
    go_enter Tryd.func8, Tryd.ntmps8
    go_wp2
    go_ret
    exact ⟨by first | rfl | (simp; done) | (simp [*]; done), by repeat (first | exact Drawn0.refl _ | apply Drawn0.step)⟩

/-! ### zoneinforef01_half: function 29 -/
def zoneinforef01_half.l0 : Nat → Int → Int → Int → Option (Int)
  | 0, _, _, _ => none
  | k + 1, x0, x3, x4 => if x4 < x0 then (zoneinforef01_half.l0 k x0 (IntKind.u64.wrap (x3 * 256)) (wrap64 (x4 + 1))) else (some x3)
def zoneinforef01_half.f (k : Nat) (a0 : Int) : Option (Int) := zoneinforef01_half.l0 k a0 128 1
theorem zoneinforef01_half.mono_l : ∀ k, (∀ y0 y1 y2, LeO (zoneinforef01_half.l0 k y0 y1 y2) (zoneinforef01_half.l0 (k + 1) y0 y1 y2))
  | 0 => fun _ _ _ r h => by simp [zoneinforef01_half.l0] at h
  | k + 1 => by
    have ih0 := zoneinforef01_half.mono_l k
    · intro y0 y1 y2
      unfold zoneinforef01_half.l0
      repeat' first
      | (with_reducible exact ih0 _ _ _)
      | (with_reducible exact LeO.refl _)
      | (with_reducible exact LeO.none _)
      | (with_reducible refine LeO.ite ?_ ?_)
      | (with_reducible refine LeO.bind ?_ (fun _ => ?_))
      | exact ih0 _ _ _
      | exact LeO.none _
      | refine LeO.ite ?_ ?_
      | refine LeO.bind ?_ (fun _ => ?_)
theorem zoneinforef01_half.mono : ∀ a0 k, LeO (zoneinforef01_half.f k a0) (zoneinforef01_half.f (k + 1) a0) := by
  intro a0 k
  have ih0 := zoneinforef01_half.mono_l k
  unfold zoneinforef01_half.f
  repeat' first
      | (with_reducible exact ih0 _ _ _)
      | (with_reducible exact LeO.refl _)
      | (with_reducible exact LeO.none _)
      | (with_reducible refine LeO.ite ?_ ?_)
      | (with_reducible refine LeO.bind ?_ (fun _ => ?_))
      | exact ih0 _ _ _
      | exact LeO.none _
      | refine LeO.ite ?_ ?_
      | refine LeO.bind ?_ (fun _ => ?_)
set_option maxHeartbeats 8000000 in
set_option maxRecDepth 100000 in
theorem zoneinforef01_half.calls (k : Nat) (a0 : Int) (r : Int) (w : World) (h : zoneinforef01_half.f k a0 = some r) :
    Calls Tryd.prog 29 #[.int .i64 a0] w fun e w' => e = .returned (.int .u64 r) ∧ Drawn0 w w' := by
  have H : (zoneinforef01_half.l0 k a0 128 1) = some r := h
  clear h
  have H' := Aside0.mk H
  clear H
  go_enter Tryd.func29, Tryd.ntmps29
  go_wp2
  go_loopg [3, 4] k (fun kq v3 v4 w' => ∃ (x3_1 : Int) (x4_1 : Int), v3 = .int .u64 x3_1 ∧ v4 = .int .i64 x4_1 ∧ Aside0 (zoneinforef01_half.l0 kq a0 x3_1 x4_1 = some r) ∧ Aside0 (kq ≤ k) ∧ Drawn0 w w')
  case atStart => exact ⟨(128), (1), (by first | rfl | (simp; done) | (simp [*]; done)), (by first | rfl | (simp; done) | (simp [*]; done)), H', ⟨Nat.le_refl _⟩, by repeat (first | exact Drawn0.refl _ | apply Drawn0.step)⟩
  case round =>
    clear H'
    obtain ⟨x3_1, x4_1, rfl, rfl, HA, HK1, ⟨m1, rfl⟩⟩ := hrel
    cases gk with
    | zero => exact absurd HA.out (by simp [zoneinforef01_half.l0])
    | succ k1 =>
      have H := HA.out
      clear HA
      simp only [zoneinforef01_half.l0] at H
      by_cases c2 : x4_1 < a0
      · rw [if_pos c2] at H
        have c2b0 : decide (x4_1 < a0) = true := decide_eq_true c2
        clear c2
        have H' := Aside0.mk H
        clear H
        go_wp2
        go_roundg k1
        case measure => have := HK1.out; omega
        case rel => exact ⟨(IntKind.u64.wrap (x3_1 * 256)), (wrap64 (x4_1 + 1)), (by first | rfl | (simp; done) | (simp [*]; done)), (by first | rfl | (simp; done) | (simp [*]; done)), H', ⟨by have := HK1.out; omega⟩, by repeat (first | exact Drawn0.refl _ | apply Drawn0.step)⟩
      · rw [if_neg c2] at H
        have c2b0 : decide (x4_1 < a0) = false := decide_eq_false c2
        clear c2
        obtain rfl := Option.some.inj H
        go_wp2
        go_ret
        exact ⟨by first | rfl | (simp; done) | (simp [*]; done), by repeat (first | exact Drawn0.refl _ | apply Drawn0.step)⟩

/-! ### zoneinforef01_Uint: function 31 -/
mutual
def zoneinforef01_Uint.j0 : Nat → List Int → Int → Int → Bool → Option (Int × Bool)
  | 0, _, _, _, _ => none
  | k + 1, x0, x1, x2, x19 => if x19 = true then (some (0, false)) else (zoneinforef01_Uint.l0 k x0 x1 x2 0 0)
def zoneinforef01_Uint.l0 : Nat → List Int → Int → Int → Int → Int → Option (Int × Bool)
  | 0, _, _, _, _, _ => none
  | k + 1, x0, x1, x2, x8, x9 => if x9 < x2 then (if 0 ≤ (wrap64 (x1 + x9)) then (if (wrap64 (x1 + x9)) < (x0.length : Int) then (zoneinforef01_Uint.l0 k x0 x1 x2 (IntKind.u64.wrap ((IntKind.u64.wrap (x8 * 256)) + (IntKind.u64.wrap (rd x0 (wrap64 (x1 + x9)))))) (wrap64 (x9 + 1))) else (none)) else (none)) else (some (x8, true))
end
def zoneinforef01_Uint.f (k : Nat) (l0 : List Int) (a1 : Int) (a2 : Int) : Option (Int × Bool) := if a1 < 0 then (zoneinforef01_Uint.j0 k l0 a1 a2 true) else (zoneinforef01_Uint.j0 k l0 a1 a2 (decide (a1 > (wrap64 ((l0.length : Int) - a2)))))
theorem zoneinforef01_Uint.mono_l : ∀ k, (∀ y0 y1 y2 y3, LeO (zoneinforef01_Uint.j0 k y0 y1 y2 y3) (zoneinforef01_Uint.j0 (k + 1) y0 y1 y2 y3)) ∧ (∀ y0 y1 y2 y3 y4, LeO (zoneinforef01_Uint.l0 k y0 y1 y2 y3 y4) (zoneinforef01_Uint.l0 (k + 1) y0 y1 y2 y3 y4))
  | 0 => ⟨fun _ _ _ _ r h => by simp [zoneinforef01_Uint.j0] at h, fun _ _ _ _ _ r h => by simp [zoneinforef01_Uint.l0] at h⟩
  | k + 1 => by
    obtain ⟨ih0, ih1⟩ := zoneinforef01_Uint.mono_l k
    refine ⟨?_, ?_⟩
    · intro y0 y1 y2 y3
      unfold zoneinforef01_Uint.j0
      repeat' first
      | (with_reducible exact ih0 _ _ _ _)
      | (with_reducible exact ih1 _ _ _ _ _)
      | (with_reducible exact LeO.refl _)
      | (with_reducible exact LeO.none _)
      | (with_reducible refine LeO.ite ?_ ?_)
      | (with_reducible refine LeO.bind ?_ (fun _ => ?_))
      | exact ih0 _ _ _ _
      | exact ih1 _ _ _ _ _
      | exact LeO.none _
      | refine LeO.ite ?_ ?_
      | refine LeO.bind ?_ (fun _ => ?_)
    · intro y0 y1 y2 y3 y4
      unfold zoneinforef01_Uint.l0
      repeat' first
      | (with_reducible exact ih0 _ _ _ _)
      | (with_reducible exact ih1 _ _ _ _ _)
      | (with_reducible exact LeO.refl _)
      | (with_reducible exact LeO.none _)
      | (with_reducible refine LeO.ite ?_ ?_)
      | (with_reducible refine LeO.bind ?_ (fun _ => ?_))
      | exact ih0 _ _ _ _
      | exact ih1 _ _ _ _ _
      | exact LeO.none _
      | refine LeO.ite ?_ ?_
      | refine LeO.bind ?_ (fun _ => ?_)
theorem zoneinforef01_Uint.mono : ∀ a0 a1 a2 k, LeO (zoneinforef01_Uint.f k a0 a1 a2) (zoneinforef01_Uint.f (k + 1) a0 a1 a2) := by
  intro a0 a1 a2 k
  obtain ⟨ih0, ih1⟩ := zoneinforef01_Uint.mono_l k
  unfold zoneinforef01_Uint.f
  repeat' first
      | (with_reducible exact ih0 _ _ _ _)
      | (with_reducible exact ih1 _ _ _ _ _)
      | (with_reducible exact LeO.refl _)
      | (with_reducible exact LeO.none _)
      | (with_reducible refine LeO.ite ?_ ?_)
      | (with_reducible refine LeO.bind ?_ (fun _ => ?_))
      | exact ih0 _ _ _ _
      | exact ih1 _ _ _ _ _
      | exact LeO.none _
      | refine LeO.ite ?_ ?_
      | refine LeO.bind ?_ (fun _ => ?_)
set_option maxHeartbeats 8000000 in
set_option maxRecDepth 100000 in
theorem zoneinforef01_Uint.calls (k : Nat) (A0 : Option Addr) (c0 : Nat) (l0 : List Int) (a1 : Int) (a2 : Int) (r1 : Int) (r2 : Bool) (w : World) (hr0 : Kd.C (Kd.int .u8) w A0 l0.length l0) (hc0 : l0.length ≤ c0) (h : zoneinforef01_Uint.f k l0 a1 a2 = some (r1, r2)) :
    Calls Tryd.prog 31 #[.slice A0 l0.length c0, .int .i64 a1, .int .i64 a2] w fun e w' => e = .returned (.tuple #[.int .u64 r1, .bool r2]) ∧ Drawn0 w w' := by
  have HR0 := Aside0.mk hr0
  have HC0 := Aside0.mk hc0
  clear hr0 hc0
  have H : (if a1 < 0 then (zoneinforef01_Uint.j0 k l0 a1 a2 true) else (zoneinforef01_Uint.j0 k l0 a1 a2 (decide (a1 > (wrap64 ((l0.length : Int) - a2)))))) = some (r1, r2) := h
  clear h
  have HC4 := Aside0.mk H
  clear H
  go_enter Tryd.func31, Tryd.ntmps31
  go_upto_region 1 with (fail)
  go_cut [19] (fun v19 wc => ∃ (kq : Nat) (x19_3 : Bool), v19 = .bool x19_3 ∧ Aside0 (zoneinforef01_Uint.j0 kq l0 a1 a2 x19_3 = some (r1, r2)) ∧ Aside0 (kq ≤ k) ∧ Drawn0 w wc)
  case first =>
    have H := HC4.out
    clear HC4
    by_cases c5 : a1 < 0
    · rw [if_pos c5] at H
      have c5b0 : decide (a1 < 0) = true := decide_eq_true c5
      clear c5
      (first | rw [c5b0] | (simp only [i64_w, i32_w]; rw [c5b0]) | skip)
      have H' := Aside0.mk H
      clear H
      go_wp2
      go_meet
      case rel => exact ⟨_, (true), (by first | rfl | (simp; done) | (simp [*]; done)), H', ⟨by first | omega | exact Nat.le_refl _⟩, by repeat (first | exact Drawn0.refl _ | apply Drawn0.step)⟩
    · rw [if_neg c5] at H
      have c5b0 : decide (a1 < 0) = false := decide_eq_false c5
      clear c5
      (first | rw [c5b0] | (simp only [i64_w, i32_w]; rw [c5b0]) | skip)
      have H' := Aside0.mk H
      clear H
      go_wp2
      go_meet
      case rel => exact ⟨_, (decide (a1 > (wrap64 ((l0.length : Int) - a2)))), (by first | rfl | (simp; done) | (simp [*]; done)), H', ⟨by first | omega | exact Nat.le_refl _⟩, by repeat (first | exact Drawn0.refl _ | apply Drawn0.step)⟩
  case rest =>
    clear HC4
    try clear p2
    try clear c3
    try clear c5
    try clear c5b0
    obtain ⟨kq, x19_3, rfl, HA, HJ3, ⟨mc3, rfl⟩⟩ := hcut
    cases kq with
    | zero => exact absurd HA.out (by simp [zoneinforef01_Uint.j0])
    | succ kj3 =>
      have H := HA.out
      clear HA
      simp only [zoneinforef01_Uint.j0] at H
      by_cases c6 : x19_3 = true
      · subst c6
        have H1 : (some (0, false)) = some (r1, r2) := by rw [if_pos rfl] at H; exact H
        clear H
        have H := H1
        clear H1
        simp only [Option.some.injEq, Prod.mk.injEq] at H
        obtain ⟨rfl, rfl⟩ := H
        go_wp2
        go_ret2
        exact ⟨by first | rfl | (simp; done) | (simp [*]; done), by repeat (first | exact Drawn0.refl _ | apply Drawn0.step)⟩
      · replace c6 := Bool.eq_false_iff.mpr c6
        subst c6
        have H1 : (zoneinforef01_Uint.l0 kj3 l0 a1 a2 0 0) = some (r1, r2) := by rw [if_neg (show ¬ (false = true) by decide)] at H; exact H
        clear H
        have H := H1
        clear H1
        have H' := Aside0.mk H
        clear H
        go_wp2
        go_loopg [8, 9] kj3 (fun kq v8 v9 w' => ∃ (x8_2 : Int) (x9_2 : Int), v8 = .int .u64 x8_2 ∧ v9 = .int .i64 x9_2 ∧ Aside0 (zoneinforef01_Uint.l0 kq l0 a1 a2 x8_2 x9_2 = some (r1, r2)) ∧ Aside0 (kq ≤ kj3) ∧ Drawn0 w w')
        case atStart => exact ⟨(0), (0), (by first | rfl | (simp; done) | (simp [*]; done)), (by first | rfl | (simp; done) | (simp [*]; done)), H', ⟨Nat.le_refl _⟩, by repeat (first | exact Drawn0.refl _ | apply Drawn0.step)⟩
        case round =>
          clear H'
          try clear p2
          try clear c3
          try clear c5
          try clear c5b0
          try clear c6
          try clear p6
          try clear p2
          obtain ⟨x8_2, x9_2, rfl, rfl, HA, HK2, ⟨m2, rfl⟩⟩ := hrel
          cases gk with
          | zero => exact absurd HA.out (by simp [zoneinforef01_Uint.l0])
          | succ k2 =>
            have H := HA.out
            clear HA
            simp only [zoneinforef01_Uint.l0] at H
            by_cases c7 : x9_2 < a2
            · rw [if_pos c7] at H
              have c7b0 : decide (x9_2 < a2) = true := decide_eq_true c7
              clear c7
              obtain ⟨ji8, hji8⟩ : ∃ j_ : Int, (wrap64 (a1 + x9_2)) = j_ := ⟨_, rfl⟩
              replace H : (if 0 ≤ (ji8) then (if (ji8) < (l0.length : Int) then (zoneinforef01_Uint.l0 k2 l0 a1 a2 (IntKind.u64.wrap ((IntKind.u64.wrap (x8_2 * 256)) + (IntKind.u64.wrap (rd l0 (ji8))))) (wrap64 (x9_2 + 1))) else (none)) else (none)) = some (r1, r2) := by first | (rw [hji8] at H; exact H) | (simp only [hji8] at H ⊢; exact H)
              have hji8w : (IntKind.i64.wrap (a1 + x9_2)) = ji8 := (i64_w _).trans hji8
              by_cases c9 : 0 ≤ (ji8)
              · rw [if_pos c9] at H
                have c9b0 : decide (0 ≤ (ji8)) = true := decide_eq_true c9
                clear c9
                by_cases c10 : (ji8) < (l0.length : Int)
                · rw [if_pos c10] at H
                  have c10b0 : decide ((ji8) < (l0.length : Int)) = true := decide_eq_true c10
                  clear c10
                  have H' := Aside0.mk H
                  clear H
                  have p192 : 0 ≤ ((ji8) : Int) := of_decide_eq_true (by first | (with_reducible assumption) | assumption)
                  have q192 : (ji8) < (l0.length : Int) := of_decide_eq_true (by first | (with_reducible assumption) | assumption)
                  obtain ⟨ad192, e192, hx192_0⟩ := Kd.at_int HR0.out (ji8) p192 q192
                  cases e192
                  replace p192 := eq_true p192
                  replace q192 := eq_true q192
                  go_wp2
                  go_roundg k2
                  case measure => have := HJ3.out; have := HK2.out; omega
                  case rel => exact ⟨(IntKind.u64.wrap ((IntKind.u64.wrap (x8_2 * 256)) + (IntKind.u64.wrap (rd l0 (ji8))))), (wrap64 (x9_2 + 1)), (by first | rfl | (simp; done) | (simp only [← hji8] <;> (first | rfl | simp)) | (simp [*]; done)), (by first | rfl | (simp; done) | (simp [*]; done)), H', ⟨by have := HJ3.out; have := HK2.out; omega⟩, by repeat (first | exact Drawn0.refl _ | apply Drawn0.step)⟩
                · rw [if_neg c10] at H
                  exact absurd H (by simp)
              · rw [if_neg c9] at H
                exact absurd H (by simp)
            · rw [if_neg c7] at H
              have c7b0 : decide (x9_2 < a2) = false := decide_eq_false c7
              clear c7
              simp only [Option.some.injEq, Prod.mk.injEq] at H
              obtain ⟨rfl, rfl⟩ := H
              go_wp2
              go_ret2
              exact ⟨by first | rfl | (simp; done) | (simp [*]; done), by repeat (first | exact Drawn0.refl _ | apply Drawn0.step)⟩

/-! ### zoneinforef01_Int: function 25 -/
def zoneinforef01_Int.f (k : Nat) (l0 : List Int) (a1 : Int) (a2 : Int) : Option (Int × Bool) := (zoneinforef01_Uint.f k l0 a1 a2).bind fun bt193 => ((zoneinforef01_half.f k a2).bind fun t195 => (if bt193.1 ≥ t195 then ((zoneinforef01_half.f k a2).bind fun t196 => ((zoneinforef01_half.f k a2).bind fun t197 => (some (wrap64 ((wrap64 ((wrap64 (IntKind.u64.wrap (bt193.1 - t196))) - (wrap64 (IntKind.u64.wrap (t197 - 1))))) - 1), bt193.2)))) else (some (wrap64 (bt193.1), bt193.2))))
theorem zoneinforef01_Int.mono : ∀ a0 a1 a2 k, LeO (zoneinforef01_Int.f k a0 a1 a2) (zoneinforef01_Int.f (k + 1) a0 a1 a2) := by
  intro a0 a1 a2 k
  unfold zoneinforef01_Int.f
  repeat' first
      | (with_reducible exact zoneinforef01_Uint.mono _ _ _ _)
      | (with_reducible exact zoneinforef01_half.mono _ _)
      | (with_reducible exact LeO.refl _)
      | (with_reducible exact LeO.none _)
      | (with_reducible refine LeO.ite ?_ ?_)
      | (with_reducible refine LeO.bind ?_ (fun _ => ?_))
      | exact zoneinforef01_Uint.mono _ _ _ _
      | exact zoneinforef01_half.mono _ _
      | exact LeO.none _
      | refine LeO.ite ?_ ?_
      | refine LeO.bind ?_ (fun _ => ?_)
set_option maxHeartbeats 8000000 in
set_option maxRecDepth 100000 in
theorem zoneinforef01_Int.calls (k : Nat) (A0 : Option Addr) (c0 : Nat) (l0 : List Int) (a1 : Int) (a2 : Int) (r1 : Int) (r2 : Bool) (w : World) (hr0 : Kd.C (Kd.int .u8) w A0 l0.length l0) (hc0 : l0.length ≤ c0) (h : zoneinforef01_Int.f k l0 a1 a2 = some (r1, r2)) :
    Calls Tryd.prog 25 #[.slice A0 l0.length c0, .int .i64 a1, .int .i64 a2] w fun e w' => e = .returned (.tuple #[.int .i64 r1, .bool r2]) ∧ Drawn0 w w' := by
  have HR0 := Aside0.mk hr0
  have HC0 := Aside0.mk hc0
  clear hr0 hc0
  have H : ((zoneinforef01_Uint.f k l0 a1 a2).bind fun bt193 => ((zoneinforef01_half.f k a2).bind fun t195 => (if bt193.1 ≥ t195 then ((zoneinforef01_half.f k a2).bind fun t196 => ((zoneinforef01_half.f k a2).bind fun t197 => (some (wrap64 ((wrap64 ((wrap64 (IntKind.u64.wrap (bt193.1 - t196))) - (wrap64 (IntKind.u64.wrap (t197 - 1))))) - 1), bt193.2)))) else (some (wrap64 (bt193.1), bt193.2))))) = some (r1, r2) := h
  clear h
  replace H := Option.bind_eq_some_iff.mp H
  obtain ⟨⟨t193, t194⟩, A40, H⟩ := H
  replace H : ((zoneinforef01_half.f k a2).bind fun t195 => (if t193 ≥ t195 then ((zoneinforef01_half.f k a2).bind fun t196 => ((zoneinforef01_half.f k a2).bind fun t197 => (some (wrap64 ((wrap64 ((wrap64 (IntKind.u64.wrap (t193 - t196))) - (wrap64 (IntKind.u64.wrap (t197 - 1))))) - 1), t194)))) else (some (wrap64 (t193), t194)))) = some (r1, r2) := H
  have A4 := Aside0.mk A40
  clear A40
  replace H := Option.bind_eq_some_iff.mp H
  obtain ⟨t195, A50, H⟩ := H
  replace H : (if t193 ≥ t195 then ((zoneinforef01_half.f k a2).bind fun t196 => ((zoneinforef01_half.f k a2).bind fun t197 => (some (wrap64 ((wrap64 ((wrap64 (IntKind.u64.wrap (t193 - t196))) - (wrap64 (IntKind.u64.wrap (t197 - 1))))) - 1), t194)))) else (some (wrap64 (t193), t194))) = some (r1, r2) := H
  have A5 := Aside0.mk A50
  clear A50
  by_cases c6 : t193 ≥ t195
  · rw [if_pos c6] at H
    have c6b0 : decide (t195 ≤ t193) = true := decide_eq_true c6
    clear c6
    replace H := Option.bind_eq_some_iff.mp H
    obtain ⟨t196, A70, H⟩ := H
    replace H : ((zoneinforef01_half.f k a2).bind fun t197 => (some (wrap64 ((wrap64 ((wrap64 (IntKind.u64.wrap (t193 - t196))) - (wrap64 (IntKind.u64.wrap (t197 - 1))))) - 1), t194))) = some (r1, r2) := H
    have A7 := Aside0.mk A70
    clear A70
    replace H := Option.bind_eq_some_iff.mp H
    obtain ⟨t197, A80, H⟩ := H
    replace H : (some (wrap64 ((wrap64 ((wrap64 (IntKind.u64.wrap (t193 - t196))) - (wrap64 (IntKind.u64.wrap (t197 - 1))))) - 1), t194)) = some (r1, r2) := H
    have A8 := Aside0.mk A80
    clear A80
    simp only [Option.some.injEq, Prod.mk.injEq] at H
    obtain ⟨rfl, rfl⟩ := H
    go_enter Tryd.func25, Tryd.ntmps25
    go_wp2_with (first | ((with_reducible refine gate_callee (f := 31) rfl ?_); refine goesL_ (some 14) rfl rfl Tryd.func31 (by kernel_rfl) rfl #[.slice A0 l0.length c0, .int .i64 a1, .int .i64 a2] rfl (by (try simp only [List.map_toArray, List.map_cons, List.map_nil]); first | done | rfl | (simp only [List.length_drop, List.length_take]; rfl)) ?_; (with_reducible refine (zoneinforef01_Uint.calls k _ _ l0 a1 a2 t193 t194 _ ?side1 ?side2 A4.out).mono ?_); (case side1 => repeat (first | exact HR0.out | (with_reducible refine Kd.C_alloc ?_ _) | (with_reducible refine Kd.C_drewN ?_ _) | (with_reducible refine Kd.C_drew ?_))); (case side2 => exact HC0.out); rintro e w' ⟨rfl, ⟨nd, rfl⟩⟩; refine ⟨_, rfl, ?_⟩) | ((with_reducible refine gate_callee (f := 29) rfl ?_); refine goesL_ (some 19) rfl rfl Tryd.func29 (by kernel_rfl) rfl #[.int .i64 a2] rfl (by (try simp only [List.map_toArray, List.map_cons, List.map_nil]); first | done | rfl | (simp only [List.length_drop, List.length_take]; rfl)) ?_; (with_reducible refine (zoneinforef01_half.calls k a2 t195 _ A5.out).mono ?_); rintro e w' ⟨rfl, ⟨nd, rfl⟩⟩; refine ⟨_, rfl, ?_⟩) | ((with_reducible refine gate_callee (f := 29) rfl ?_); refine goesL_ (some 23) rfl rfl Tryd.func29 (by kernel_rfl) rfl #[.int .i64 a2] rfl (by (try simp only [List.map_toArray, List.map_cons, List.map_nil]); first | done | rfl | (simp only [List.length_drop, List.length_take]; rfl)) ?_; (with_reducible refine (zoneinforef01_half.calls k a2 t196 _ A7.out).mono ?_); rintro e w' ⟨rfl, ⟨nd, rfl⟩⟩; refine ⟨_, rfl, ?_⟩) | ((with_reducible refine gate_callee (f := 29) rfl ?_); refine goesL_ (some 27) rfl rfl Tryd.func29 (by kernel_rfl) rfl #[.int .i64 a2] rfl (by (try simp only [List.map_toArray, List.map_cons, List.map_nil]); first | done | rfl | (simp only [List.length_drop, List.length_take]; rfl)) ?_; (with_reducible refine (zoneinforef01_half.calls k a2 t197 _ A8.out).mono ?_); rintro e w' ⟨rfl, ⟨nd, rfl⟩⟩; refine ⟨_, rfl, ?_⟩))
    go_ret2
    exact ⟨by first | rfl | (simp; done) | (simp [*]; done), by repeat (first | exact Drawn0.refl _ | apply Drawn0.step)⟩
  · rw [if_neg c6] at H
    have c6b0 : decide (t195 ≤ t193) = false := decide_eq_false c6
    clear c6
    simp only [Option.some.injEq, Prod.mk.injEq] at H
    obtain ⟨rfl, rfl⟩ := H
    go_enter Tryd.func25, Tryd.ntmps25
    go_wp2_with (first | ((with_reducible refine gate_callee (f := 31) rfl ?_); refine goesL_ (some 14) rfl rfl Tryd.func31 (by kernel_rfl) rfl #[.slice A0 l0.length c0, .int .i64 a1, .int .i64 a2] rfl (by (try simp only [List.map_toArray, List.map_cons, List.map_nil]); first | done | rfl | (simp only [List.length_drop, List.length_take]; rfl)) ?_; (with_reducible refine (zoneinforef01_Uint.calls k _ _ l0 a1 a2 t193 t194 _ ?side1 ?side2 A4.out).mono ?_); (case side1 => repeat (first | exact HR0.out | (with_reducible refine Kd.C_alloc ?_ _) | (with_reducible refine Kd.C_drewN ?_ _) | (with_reducible refine Kd.C_drew ?_))); (case side2 => exact HC0.out); rintro e w' ⟨rfl, ⟨nd, rfl⟩⟩; refine ⟨_, rfl, ?_⟩) | ((with_reducible refine gate_callee (f := 29) rfl ?_); refine goesL_ (some 19) rfl rfl Tryd.func29 (by kernel_rfl) rfl #[.int .i64 a2] rfl (by (try simp only [List.map_toArray, List.map_cons, List.map_nil]); first | done | rfl | (simp only [List.length_drop, List.length_take]; rfl)) ?_; (with_reducible refine (zoneinforef01_half.calls k a2 t195 _ A5.out).mono ?_); rintro e w' ⟨rfl, ⟨nd, rfl⟩⟩; refine ⟨_, rfl, ?_⟩))
    go_ret2
    exact ⟨by first | rfl | (simp; done) | (simp [*]; done), by repeat (first | exact Drawn0.refl _ | apply Drawn0.step)⟩

end Go.Proofs.YtiaobffdggeofaaDoor.G
