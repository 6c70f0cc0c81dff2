/- Written by a program of this session for this seat: contracts of the functions that its laws reach, or the row of a law over its plain part. -/
import Derived.Test.YtfminjencigfeaaGx0
import Derived.Test.YtfminjencigfeaaGx1
import Derived.Test.YtfminjencigfeaaGx3
import Derived.Test.YtfminjencigfeaaGx4
import Derived.Test.YtfminjencigfeaaGx5
import Derived.Test.YtfminjencigfeaaGx6
namespace Go.Proofs.Ytfminjencigfeaa.G
open Go.RowKit Go.Proofs.YtfminjencigfeaaW.PrintWords Go.Proofs.YtfminjencigfeaaW.PrintLast Go.Proofs.YtfminjencigfeaaW.PrintMore
attribute [local go_sem] max2_int min2_int max_two min_two max_three min_three max_four min_four   -- for this text's walks alone
set_option linter.unusedVariables false
set_option linter.unusedSimpArgs false

attribute [local go_sem high] eqA33
/-! ### zoneinfolaw23_awake: function 8 -/
def zoneinfolaw23_awake.f (k : Nat)  : Option (Bool) := (some (([10, 20] : List Int) : List Int)).bind fun y131 => ((some (([10] : List Int) : List Int)).bind fun y134 => ((some (([1] : List Int) : List Int)).bind fun y137 => ((some (([(⟨0, false, 4⟩ : S42), (⟨60, true, 0⟩ : S42), (⟨60, true, 0⟩ : S42)] : List (S42)) : List (S42))).bind fun y140 => ((some (([65, 66, 67, 0, 45, 48, 48, 0] : List Int) : List Int)).bind fun y143 => ((lookup_Rank.f k y131 9).bind fun t149 => (if t149 = 0 then ((lookup_Rank.f k y131 10).bind fun t150 => (if t150 = 1 then ((lookup_Rank.f k y131 19).bind fun t151 => (if t151 = 1 then ((lookup_Rank.f k y131 20).bind fun t152 => (if t152 = 2 then ((lookup_Rank.f k ([] : List Int) 5).bind fun t153 => (if t153 = 0 then ((lookup_TypeResult.f y134 y137 y140 y143 ([] : List (S55)) ([] : List Bool) ([] : List Bool) 0).bind fun bt154 => (if (!bt154.1 && (bt154.2.1 == 0 && (!bt154.2.2.1 && (bt154.2.2.2.toList.isEmpty)))) = true then ((lookup_TypeResult.f y134 y137 y140 y143 ([] : List (S55)) ([] : List Bool) ([] : List Bool) 1).bind fun bt158 => (if (bt158.1 && (bt158.2.1 == 60 && (bt158.2.2.1 && (bt158.2.2.2.toList == ([65, 66, 67] : List UInt8))))) = true then ((lookup_State.f y134 y137 y140 y143 ([] : List (S55)) ([] : List Bool) ([] : List Bool) 0).bind fun bt162 => (if (!bt162.1 && (bt162.2.1 == 0 && (!bt162.2.2.1 && (bt162.2.2.2.toList.isEmpty)))) = true then ((lookup_State.f y134 y137 y140 y143 ([] : List (S55)) ([] : List Bool) ([] : List Bool) 1).bind fun bt166 => (if bt166.2.1 = 60 then ((lookup_Same.f y134 y137 y140 y143 ([] : List (S55)) ([] : List Bool) ([] : List Bool) 1 2).bind fun t170 => (if t170 = true then ((lookup_Same.f y134 y137 y140 y143 ([] : List (S55)) ([] : List Bool) ([] : List Bool) 0 1).bind fun t171 => (some (!t171))) else (none))) else (none))) else (none))) else (none))) else (none))) else (none))) else (none))) else (none))) else (none))) else (none)))))))
theorem zoneinfolaw23_awake.mono : ∀ k, LeO (zoneinfolaw23_awake.f k ) (zoneinfolaw23_awake.f (k + 1) ) := by
  intro  k
  unfold zoneinfolaw23_awake.f
  repeat' first
      | (with_reducible exact lookup_Rank.mono _ _ _)
      | (with_reducible exact LeO.refl _)
      | (with_reducible exact LeO.none _)
      | (with_reducible refine LeO.ite ?_ ?_)
      | (with_reducible refine LeO.bind ?_ (fun _ => ?_))
      | exact lookup_Rank.mono _ _ _
      | exact LeO.none _
      | refine LeO.ite ?_ ?_
      | refine LeO.bind ?_ (fun _ => ?_)
set_option maxHeartbeats 8000000 in
set_option maxRecDepth 100000 in
theorem zoneinfolaw23_awake.calls (k : Nat)  (r : Bool) (w : World) (h : zoneinfolaw23_awake.f k  = some r) :
    Calls Try.prog 8 #[] w fun e w' => e = .returned (.bool r) ∧ Below w.heap.size w w' := by
  have hu42 := Try.underlying42
  have hu28 := Try.underlying28
  have hu33 := Try.underlying33
  have hfd33_1 : ∀ (v0_ v1_ v2_ v3_ : Value) (W_ : World), (Instr.field 33 (.agg #[v0_, v1_, v2_, v3_]) 1).run Try.prog W_ = .ok (v1_) W_ := by intros; kernel_rfl
  have HB := Aside0.mk (Below.refl w.heap.size w)
  have H : ((some (([10, 20] : List Int) : List Int)).bind fun y131 => ((some (([10] : List Int) : List Int)).bind fun y134 => ((some (([1] : List Int) : List Int)).bind fun y137 => ((some (([(⟨0, false, 4⟩ : S42), (⟨60, true, 0⟩ : S42), (⟨60, true, 0⟩ : S42)] : List (S42)) : List (S42))).bind fun y140 => ((some (([65, 66, 67, 0, 45, 48, 48, 0] : List Int) : List Int)).bind fun y143 => ((lookup_Rank.f k y131 9).bind fun t149 => (if t149 = 0 then ((lookup_Rank.f k y131 10).bind fun t150 => (if t150 = 1 then ((lookup_Rank.f k y131 19).bind fun t151 => (if t151 = 1 then ((lookup_Rank.f k y131 20).bind fun t152 => (if t152 = 2 then ((lookup_Rank.f k ([] : List Int) 5).bind fun t153 => (if t153 = 0 then ((lookup_TypeResult.f y134 y137 y140 y143 ([] : List (S55)) ([] : List Bool) ([] : List Bool) 0).bind fun bt154 => (if (!bt154.1 && (bt154.2.1 == 0 && (!bt154.2.2.1 && (bt154.2.2.2.toList.isEmpty)))) = true then ((lookup_TypeResult.f y134 y137 y140 y143 ([] : List (S55)) ([] : List Bool) ([] : List Bool) 1).bind fun bt158 => (if (bt158.1 && (bt158.2.1 == 60 && (bt158.2.2.1 && (bt158.2.2.2.toList == ([65, 66, 67] : List UInt8))))) = true then ((lookup_State.f y134 y137 y140 y143 ([] : List (S55)) ([] : List Bool) ([] : List Bool) 0).bind fun bt162 => (if (!bt162.1 && (bt162.2.1 == 0 && (!bt162.2.2.1 && (bt162.2.2.2.toList.isEmpty)))) = true then ((lookup_State.f y134 y137 y140 y143 ([] : List (S55)) ([] : List Bool) ([] : List Bool) 1).bind fun bt166 => (if bt166.2.1 = 60 then ((lookup_Same.f y134 y137 y140 y143 ([] : List (S55)) ([] : List Bool) ([] : List Bool) 1 2).bind fun t170 => (if t170 = true then ((lookup_Same.f y134 y137 y140 y143 ([] : List (S55)) ([] : List Bool) ([] : List Bool) 0 1).bind fun t171 => (some (!t171))) else (none))) else (none))) else (none))) else (none))) else (none))) else (none))) else (none))) else (none))) else (none))) else (none)))))))) = some r := h
  clear h
  obtain ⟨y131, hy131⟩ : ∃ y_ : List Int, y_ = (([10, 20] : List Int)) := ⟨_, rfl⟩
  replace H : ((some (([10] : List Int) : List Int)).bind fun y134 => ((some (([1] : List Int) : List Int)).bind fun y137 => ((some (([(⟨0, false, 4⟩ : S42), (⟨60, true, 0⟩ : S42), (⟨60, true, 0⟩ : S42)] : List (S42)) : List (S42))).bind fun y140 => ((some (([65, 66, 67, 0, 45, 48, 48, 0] : List Int) : List Int)).bind fun y143 => ((lookup_Rank.f k y131 9).bind fun t149 => (if t149 = 0 then ((lookup_Rank.f k y131 10).bind fun t150 => (if t150 = 1 then ((lookup_Rank.f k y131 19).bind fun t151 => (if t151 = 1 then ((lookup_Rank.f k y131 20).bind fun t152 => (if t152 = 2 then ((lookup_Rank.f k ([] : List Int) 5).bind fun t153 => (if t153 = 0 then ((lookup_TypeResult.f y134 y137 y140 y143 ([] : List (S55)) ([] : List Bool) ([] : List Bool) 0).bind fun bt154 => (if (!bt154.1 && (bt154.2.1 == 0 && (!bt154.2.2.1 && (bt154.2.2.2.toList.isEmpty)))) = true then ((lookup_TypeResult.f y134 y137 y140 y143 ([] : List (S55)) ([] : List Bool) ([] : List Bool) 1).bind fun bt158 => (if (bt158.1 && (bt158.2.1 == 60 && (bt158.2.2.1 && (bt158.2.2.2.toList == ([65, 66, 67] : List UInt8))))) = true then ((lookup_State.f y134 y137 y140 y143 ([] : List (S55)) ([] : List Bool) ([] : List Bool) 0).bind fun bt162 => (if (!bt162.1 && (bt162.2.1 == 0 && (!bt162.2.2.1 && (bt162.2.2.2.toList.isEmpty)))) = true then ((lookup_State.f y134 y137 y140 y143 ([] : List (S55)) ([] : List Bool) ([] : List Bool) 1).bind fun bt166 => (if bt166.2.1 = 60 then ((lookup_Same.f y134 y137 y140 y143 ([] : List (S55)) ([] : List Bool) ([] : List Bool) 1 2).bind fun t170 => (if t170 = true then ((lookup_Same.f y134 y137 y140 y143 ([] : List (S55)) ([] : List Bool) ([] : List Bool) 0 1).bind fun t171 => (some (!t171))) else (none))) else (none))) else (none))) else (none))) else (none))) else (none))) else (none))) else (none))) else (none))) else (none))))))) = some r := by first | (rw [hy131]; with_reducible exact H) | (have H2_ := (Option.bind_some _ _).symm.trans H; rw [hy131]; with_reducible exact H2_) | (have H2_ := (Option.bind_some _ _).symm.trans H; with_reducible exact H2_) | with_reducible exact H | (rw [hy131]; exact H) | exact H
  have Ny131 := Aside0.mk hy131
  clear hy131
  obtain ⟨y134, hy134⟩ : ∃ y_ : List Int, y_ = (([10] : List Int)) := ⟨_, rfl⟩
  replace H : ((some (([1] : List Int) : List Int)).bind fun y137 => ((some (([(⟨0, false, 4⟩ : S42), (⟨60, true, 0⟩ : S42), (⟨60, true, 0⟩ : S42)] : List (S42)) : List (S42))).bind fun y140 => ((some (([65, 66, 67, 0, 45, 48, 48, 0] : List Int) : List Int)).bind fun y143 => ((lookup_Rank.f k y131 9).bind fun t149 => (if t149 = 0 then ((lookup_Rank.f k y131 10).bind fun t150 => (if t150 = 1 then ((lookup_Rank.f k y131 19).bind fun t151 => (if t151 = 1 then ((lookup_Rank.f k y131 20).bind fun t152 => (if t152 = 2 then ((lookup_Rank.f k ([] : List Int) 5).bind fun t153 => (if t153 = 0 then ((lookup_TypeResult.f y134 y137 y140 y143 ([] : List (S55)) ([] : List Bool) ([] : List Bool) 0).bind fun bt154 => (if (!bt154.1 && (bt154.2.1 == 0 && (!bt154.2.2.1 && (bt154.2.2.2.toList.isEmpty)))) = true then ((lookup_TypeResult.f y134 y137 y140 y143 ([] : List (S55)) ([] : List Bool) ([] : List Bool) 1).bind fun bt158 => (if (bt158.1 && (bt158.2.1 == 60 && (bt158.2.2.1 && (bt158.2.2.2.toList == ([65, 66, 67] : List UInt8))))) = true then ((lookup_State.f y134 y137 y140 y143 ([] : List (S55)) ([] : List Bool) ([] : List Bool) 0).bind fun bt162 => (if (!bt162.1 && (bt162.2.1 == 0 && (!bt162.2.2.1 && (bt162.2.2.2.toList.isEmpty)))) = true then ((lookup_State.f y134 y137 y140 y143 ([] : List (S55)) ([] : List Bool) ([] : List Bool) 1).bind fun bt166 => (if bt166.2.1 = 60 then ((lookup_Same.f y134 y137 y140 y143 ([] : List (S55)) ([] : List Bool) ([] : List Bool) 1 2).bind fun t170 => (if t170 = true then ((lookup_Same.f y134 y137 y140 y143 ([] : List (S55)) ([] : List Bool) ([] : List Bool) 0 1).bind fun t171 => (some (!t171))) else (none))) else (none))) else (none))) else (none))) else (none))) else (none))) else (none))) else (none))) else (none))) else (none)))))) = some r := by first | (rw [hy134]; with_reducible exact H) | (have H2_ := (Option.bind_some _ _).symm.trans H; rw [hy134]; with_reducible exact H2_) | (have H2_ := (Option.bind_some _ _).symm.trans H; with_reducible exact H2_) | with_reducible exact H | (rw [hy134]; exact H) | exact H
  have Ny134 := Aside0.mk hy134
  clear hy134
  obtain ⟨y137, hy137⟩ : ∃ y_ : List Int, y_ = (([1] : List Int)) := ⟨_, rfl⟩
  replace H : ((some (([(⟨0, false, 4⟩ : S42), (⟨60, true, 0⟩ : S42), (⟨60, true, 0⟩ : S42)] : List (S42)) : List (S42))).bind fun y140 => ((some (([65, 66, 67, 0, 45, 48, 48, 0] : List Int) : List Int)).bind fun y143 => ((lookup_Rank.f k y131 9).bind fun t149 => (if t149 = 0 then ((lookup_Rank.f k y131 10).bind fun t150 => (if t150 = 1 then ((lookup_Rank.f k y131 19).bind fun t151 => (if t151 = 1 then ((lookup_Rank.f k y131 20).bind fun t152 => (if t152 = 2 then ((lookup_Rank.f k ([] : List Int) 5).bind fun t153 => (if t153 = 0 then ((lookup_TypeResult.f y134 y137 y140 y143 ([] : List (S55)) ([] : List Bool) ([] : List Bool) 0).bind fun bt154 => (if (!bt154.1 && (bt154.2.1 == 0 && (!bt154.2.2.1 && (bt154.2.2.2.toList.isEmpty)))) = true then ((lookup_TypeResult.f y134 y137 y140 y143 ([] : List (S55)) ([] : List Bool) ([] : List Bool) 1).bind fun bt158 => (if (bt158.1 && (bt158.2.1 == 60 && (bt158.2.2.1 && (bt158.2.2.2.toList == ([65, 66, 67] : List UInt8))))) = true then ((lookup_State.f y134 y137 y140 y143 ([] : List (S55)) ([] : List Bool) ([] : List Bool) 0).bind fun bt162 => (if (!bt162.1 && (bt162.2.1 == 0 && (!bt162.2.2.1 && (bt162.2.2.2.toList.isEmpty)))) = true then ((lookup_State.f y134 y137 y140 y143 ([] : List (S55)) ([] : List Bool) ([] : List Bool) 1).bind fun bt166 => (if bt166.2.1 = 60 then ((lookup_Same.f y134 y137 y140 y143 ([] : List (S55)) ([] : List Bool) ([] : List Bool) 1 2).bind fun t170 => (if t170 = true then ((lookup_Same.f y134 y137 y140 y143 ([] : List (S55)) ([] : List Bool) ([] : List Bool) 0 1).bind fun t171 => (some (!t171))) else (none))) else (none))) else (none))) else (none))) else (none))) else (none))) else (none))) else (none))) else (none))) else (none))))) = some r := by first | (rw [hy137]; with_reducible exact H) | (have H2_ := (Option.bind_some _ _).symm.trans H; rw [hy137]; with_reducible exact H2_) | (have H2_ := (Option.bind_some _ _).symm.trans H; with_reducible exact H2_) | with_reducible exact H | (rw [hy137]; exact H) | exact H
  have Ny137 := Aside0.mk hy137
  clear hy137
  obtain ⟨y140, hy140⟩ : ∃ y_ : List (S42), y_ = (([(⟨0, false, 4⟩ : S42), (⟨60, true, 0⟩ : S42), (⟨60, true, 0⟩ : S42)] : List (S42))) := ⟨_, rfl⟩
  replace H : ((some (([65, 66, 67, 0, 45, 48, 48, 0] : List Int) : List Int)).bind fun y143 => ((lookup_Rank.f k y131 9).bind fun t149 => (if t149 = 0 then ((lookup_Rank.f k y131 10).bind fun t150 => (if t150 = 1 then ((lookup_Rank.f k y131 19).bind fun t151 => (if t151 = 1 then ((lookup_Rank.f k y131 20).bind fun t152 => (if t152 = 2 then ((lookup_Rank.f k ([] : List Int) 5).bind fun t153 => (if t153 = 0 then ((lookup_TypeResult.f y134 y137 y140 y143 ([] : List (S55)) ([] : List Bool) ([] : List Bool) 0).bind fun bt154 => (if (!bt154.1 && (bt154.2.1 == 0 && (!bt154.2.2.1 && (bt154.2.2.2.toList.isEmpty)))) = true then ((lookup_TypeResult.f y134 y137 y140 y143 ([] : List (S55)) ([] : List Bool) ([] : List Bool) 1).bind fun bt158 => (if (bt158.1 && (bt158.2.1 == 60 && (bt158.2.2.1 && (bt158.2.2.2.toList == ([65, 66, 67] : List UInt8))))) = true then ((lookup_State.f y134 y137 y140 y143 ([] : List (S55)) ([] : List Bool) ([] : List Bool) 0).bind fun bt162 => (if (!bt162.1 && (bt162.2.1 == 0 && (!bt162.2.2.1 && (bt162.2.2.2.toList.isEmpty)))) = true then ((lookup_State.f y134 y137 y140 y143 ([] : List (S55)) ([] : List Bool) ([] : List Bool) 1).bind fun bt166 => (if bt166.2.1 = 60 then ((lookup_Same.f y134 y137 y140 y143 ([] : List (S55)) ([] : List Bool) ([] : List Bool) 1 2).bind fun t170 => (if t170 = true then ((lookup_Same.f y134 y137 y140 y143 ([] : List (S55)) ([] : List Bool) ([] : List Bool) 0 1).bind fun t171 => (some (!t171))) else (none))) else (none))) else (none))) else (none))) else (none))) else (none))) else (none))) else (none))) else (none))) else (none)))) = some r := by first | (rw [hy140]; with_reducible exact H) | (have H2_ := (Option.bind_some _ _).symm.trans H; rw [hy140]; with_reducible exact H2_) | (have H2_ := (Option.bind_some _ _).symm.trans H; with_reducible exact H2_) | with_reducible exact H | (rw [hy140]; exact H) | exact H
  have Ny140 := Aside0.mk hy140
  clear hy140
  obtain ⟨y143, hy143⟩ : ∃ y_ : List Int, y_ = (([65, 66, 67, 0, 45, 48, 48, 0] : List Int)) := ⟨_, rfl⟩
  replace H : ((lookup_Rank.f k y131 9).bind fun t149 => (if t149 = 0 then ((lookup_Rank.f k y131 10).bind fun t150 => (if t150 = 1 then ((lookup_Rank.f k y131 19).bind fun t151 => (if t151 = 1 then ((lookup_Rank.f k y131 20).bind fun t152 => (if t152 = 2 then ((lookup_Rank.f k ([] : List Int) 5).bind fun t153 => (if t153 = 0 then ((lookup_TypeResult.f y134 y137 y140 y143 ([] : List (S55)) ([] : List Bool) ([] : List Bool) 0).bind fun bt154 => (if (!bt154.1 && (bt154.2.1 == 0 && (!bt154.2.2.1 && (bt154.2.2.2.toList.isEmpty)))) = true then ((lookup_TypeResult.f y134 y137 y140 y143 ([] : List (S55)) ([] : List Bool) ([] : List Bool) 1).bind fun bt158 => (if (bt158.1 && (bt158.2.1 == 60 && (bt158.2.2.1 && (bt158.2.2.2.toList == ([65, 66, 67] : List UInt8))))) = true then ((lookup_State.f y134 y137 y140 y143 ([] : List (S55)) ([] : List Bool) ([] : List Bool) 0).bind fun bt162 => (if (!bt162.1 && (bt162.2.1 == 0 && (!bt162.2.2.1 && (bt162.2.2.2.toList.isEmpty)))) = true then ((lookup_State.f y134 y137 y140 y143 ([] : List (S55)) ([] : List Bool) ([] : List Bool) 1).bind fun bt166 => (if bt166.2.1 = 60 then ((lookup_Same.f y134 y137 y140 y143 ([] : List (S55)) ([] : List Bool) ([] : List Bool) 1 2).bind fun t170 => (if t170 = true then ((lookup_Same.f y134 y137 y140 y143 ([] : List (S55)) ([] : List Bool) ([] : List Bool) 0 1).bind fun t171 => (some (!t171))) else (none))) else (none))) else (none))) else (none))) else (none))) else (none))) else (none))) else (none))) else (none))) else (none))) = some r := by first | (rw [hy143]; with_reducible exact H) | (have H2_ := (Option.bind_some _ _).symm.trans H; rw [hy143]; with_reducible exact H2_) | (have H2_ := (Option.bind_some _ _).symm.trans H; with_reducible exact H2_) | with_reducible exact H | (rw [hy143]; exact H) | exact H
  have Ny143 := Aside0.mk hy143
  clear hy143
  replace H := Option.bind_eq_some_iff.mp H
  obtain ⟨t149, A10, H⟩ := H
  replace H : (if t149 = 0 then ((lookup_Rank.f k y131 10).bind fun t150 => (if t150 = 1 then ((lookup_Rank.f k y131 19).bind fun t151 => (if t151 = 1 then ((lookup_Rank.f k y131 20).bind fun t152 => (if t152 = 2 then ((lookup_Rank.f k ([] : List Int) 5).bind fun t153 => (if t153 = 0 then ((lookup_TypeResult.f y134 y137 y140 y143 ([] : List (S55)) ([] : List Bool) ([] : List Bool) 0).bind fun bt154 => (if (!bt154.1 && (bt154.2.1 == 0 && (!bt154.2.2.1 && (bt154.2.2.2.toList.isEmpty)))) = true then ((lookup_TypeResult.f y134 y137 y140 y143 ([] : List (S55)) ([] : List Bool) ([] : List Bool) 1).bind fun bt158 => (if (bt158.1 && (bt158.2.1 == 60 && (bt158.2.2.1 && (bt158.2.2.2.toList == ([65, 66, 67] : List UInt8))))) = true then ((lookup_State.f y134 y137 y140 y143 ([] : List (S55)) ([] : List Bool) ([] : List Bool) 0).bind fun bt162 => (if (!bt162.1 && (bt162.2.1 == 0 && (!bt162.2.2.1 && (bt162.2.2.2.toList.isEmpty)))) = true then ((lookup_State.f y134 y137 y140 y143 ([] : List (S55)) ([] : List Bool) ([] : List Bool) 1).bind fun bt166 => (if bt166.2.1 = 60 then ((lookup_Same.f y134 y137 y140 y143 ([] : List (S55)) ([] : List Bool) ([] : List Bool) 1 2).bind fun t170 => (if t170 = true then ((lookup_Same.f y134 y137 y140 y143 ([] : List (S55)) ([] : List Bool) ([] : List Bool) 0 1).bind fun t171 => (some (!t171))) else (none))) else (none))) else (none))) else (none))) else (none))) else (none))) else (none))) else (none))) else (none))) else (none)) = some r := H
  have A1 := Aside0.mk A10
  clear A10
  by_cases c2 : t149 = 0
  · rw [if_pos c2] at H
    have c2b0 : (t149 == 0) = true := beq_iff_eq.mpr c2
    have c2b1 : (t149 != 0) = false := bne_eq_false_iff_eq.mpr c2
    clear c2
    replace H := Option.bind_eq_some_iff.mp H
    obtain ⟨t150, A30, H⟩ := H
    replace H : (if t150 = 1 then ((lookup_Rank.f k y131 19).bind fun t151 => (if t151 = 1 then ((lookup_Rank.f k y131 20).bind fun t152 => (if t152 = 2 then ((lookup_Rank.f k ([] : List Int) 5).bind fun t153 => (if t153 = 0 then ((lookup_TypeResult.f y134 y137 y140 y143 ([] : List (S55)) ([] : List Bool) ([] : List Bool) 0).bind fun bt154 => (if (!bt154.1 && (bt154.2.1 == 0 && (!bt154.2.2.1 && (bt154.2.2.2.toList.isEmpty)))) = true then ((lookup_TypeResult.f y134 y137 y140 y143 ([] : List (S55)) ([] : List Bool) ([] : List Bool) 1).bind fun bt158 => (if (bt158.1 && (bt158.2.1 == 60 && (bt158.2.2.1 && (bt158.2.2.2.toList == ([65, 66, 67] : List UInt8))))) = true then ((lookup_State.f y134 y137 y140 y143 ([] : List (S55)) ([] : List Bool) ([] : List Bool) 0).bind fun bt162 => (if (!bt162.1 && (bt162.2.1 == 0 && (!bt162.2.2.1 && (bt162.2.2.2.toList.isEmpty)))) = true then ((lookup_State.f y134 y137 y140 y143 ([] : List (S55)) ([] : List Bool) ([] : List Bool) 1).bind fun bt166 => (if bt166.2.1 = 60 then ((lookup_Same.f y134 y137 y140 y143 ([] : List (S55)) ([] : List Bool) ([] : List Bool) 1 2).bind fun t170 => (if t170 = true then ((lookup_Same.f y134 y137 y140 y143 ([] : List (S55)) ([] : List Bool) ([] : List Bool) 0 1).bind fun t171 => (some (!t171))) else (none))) else (none))) else (none))) else (none))) else (none))) else (none))) else (none))) else (none))) else (none)) = some r := H
    have A3 := Aside0.mk A30
    clear A30
    by_cases c4 : t150 = 1
    · rw [if_pos c4] at H
      have c4b0 : (t150 == 1) = true := beq_iff_eq.mpr c4
      have c4b1 : (t150 != 1) = false := bne_eq_false_iff_eq.mpr c4
      clear c4
      replace H := Option.bind_eq_some_iff.mp H
      obtain ⟨t151, A50, H⟩ := H
      replace H : (if t151 = 1 then ((lookup_Rank.f k y131 20).bind fun t152 => (if t152 = 2 then ((lookup_Rank.f k ([] : List Int) 5).bind fun t153 => (if t153 = 0 then ((lookup_TypeResult.f y134 y137 y140 y143 ([] : List (S55)) ([] : List Bool) ([] : List Bool) 0).bind fun bt154 => (if (!bt154.1 && (bt154.2.1 == 0 && (!bt154.2.2.1 && (bt154.2.2.2.toList.isEmpty)))) = true then ((lookup_TypeResult.f y134 y137 y140 y143 ([] : List (S55)) ([] : List Bool) ([] : List Bool) 1).bind fun bt158 => (if (bt158.1 && (bt158.2.1 == 60 && (bt158.2.2.1 && (bt158.2.2.2.toList == ([65, 66, 67] : List UInt8))))) = true then ((lookup_State.f y134 y137 y140 y143 ([] : List (S55)) ([] : List Bool) ([] : List Bool) 0).bind fun bt162 => (if (!bt162.1 && (bt162.2.1 == 0 && (!bt162.2.2.1 && (bt162.2.2.2.toList.isEmpty)))) = true then ((lookup_State.f y134 y137 y140 y143 ([] : List (S55)) ([] : List Bool) ([] : List Bool) 1).bind fun bt166 => (if bt166.2.1 = 60 then ((lookup_Same.f y134 y137 y140 y143 ([] : List (S55)) ([] : List Bool) ([] : List Bool) 1 2).bind fun t170 => (if t170 = true then ((lookup_Same.f y134 y137 y140 y143 ([] : List (S55)) ([] : List Bool) ([] : List Bool) 0 1).bind fun t171 => (some (!t171))) else (none))) else (none))) else (none))) else (none))) else (none))) else (none))) else (none))) else (none)) = some r := H
      have A5 := Aside0.mk A50
      clear A50
      by_cases c6 : t151 = 1
      · rw [if_pos c6] at H
        have c6b0 : (t151 == 1) = true := beq_iff_eq.mpr c6
        have c6b1 : (t151 != 1) = false := bne_eq_false_iff_eq.mpr c6
        clear c6
        replace H := Option.bind_eq_some_iff.mp H
        obtain ⟨t152, A70, H⟩ := H
        replace H : (if t152 = 2 then ((lookup_Rank.f k ([] : List Int) 5).bind fun t153 => (if t153 = 0 then ((lookup_TypeResult.f y134 y137 y140 y143 ([] : List (S55)) ([] : List Bool) ([] : List Bool) 0).bind fun bt154 => (if (!bt154.1 && (bt154.2.1 == 0 && (!bt154.2.2.1 && (bt154.2.2.2.toList.isEmpty)))) = true then ((lookup_TypeResult.f y134 y137 y140 y143 ([] : List (S55)) ([] : List Bool) ([] : List Bool) 1).bind fun bt158 => (if (bt158.1 && (bt158.2.1 == 60 && (bt158.2.2.1 && (bt158.2.2.2.toList == ([65, 66, 67] : List UInt8))))) = true then ((lookup_State.f y134 y137 y140 y143 ([] : List (S55)) ([] : List Bool) ([] : List Bool) 0).bind fun bt162 => (if (!bt162.1 && (bt162.2.1 == 0 && (!bt162.2.2.1 && (bt162.2.2.2.toList.isEmpty)))) = true then ((lookup_State.f y134 y137 y140 y143 ([] : List (S55)) ([] : List Bool) ([] : List Bool) 1).bind fun bt166 => (if bt166.2.1 = 60 then ((lookup_Same.f y134 y137 y140 y143 ([] : List (S55)) ([] : List Bool) ([] : List Bool) 1 2).bind fun t170 => (if t170 = true then ((lookup_Same.f y134 y137 y140 y143 ([] : List (S55)) ([] : List Bool) ([] : List Bool) 0 1).bind fun t171 => (some (!t171))) else (none))) else (none))) else (none))) else (none))) else (none))) else (none))) else (none)) = some r := H
        have A7 := Aside0.mk A70
        clear A70
        by_cases c8 : t152 = 2
        · rw [if_pos c8] at H
          have c8b0 : (t152 == 2) = true := beq_iff_eq.mpr c8
          have c8b1 : (t152 != 2) = false := bne_eq_false_iff_eq.mpr c8
          clear c8
          replace H := Option.bind_eq_some_iff.mp H
          obtain ⟨t153, A90, H⟩ := H
          replace H : (if t153 = 0 then ((lookup_TypeResult.f y134 y137 y140 y143 ([] : List (S55)) ([] : List Bool) ([] : List Bool) 0).bind fun bt154 => (if (!bt154.1 && (bt154.2.1 == 0 && (!bt154.2.2.1 && (bt154.2.2.2.toList.isEmpty)))) = true then ((lookup_TypeResult.f y134 y137 y140 y143 ([] : List (S55)) ([] : List Bool) ([] : List Bool) 1).bind fun bt158 => (if (bt158.1 && (bt158.2.1 == 60 && (bt158.2.2.1 && (bt158.2.2.2.toList == ([65, 66, 67] : List UInt8))))) = true then ((lookup_State.f y134 y137 y140 y143 ([] : List (S55)) ([] : List Bool) ([] : List Bool) 0).bind fun bt162 => (if (!bt162.1 && (bt162.2.1 == 0 && (!bt162.2.2.1 && (bt162.2.2.2.toList.isEmpty)))) = true then ((lookup_State.f y134 y137 y140 y143 ([] : List (S55)) ([] : List Bool) ([] : List Bool) 1).bind fun bt166 => (if bt166.2.1 = 60 then ((lookup_Same.f y134 y137 y140 y143 ([] : List (S55)) ([] : List Bool) ([] : List Bool) 1 2).bind fun t170 => (if t170 = true then ((lookup_Same.f y134 y137 y140 y143 ([] : List (S55)) ([] : List Bool) ([] : List Bool) 0 1).bind fun t171 => (some (!t171))) else (none))) else (none))) else (none))) else (none))) else (none))) else (none)) = some r := H
          have A9 := Aside0.mk A90
          clear A90
          by_cases c10 : t153 = 0
          · rw [if_pos c10] at H
            have c10b0 : (t153 == 0) = true := beq_iff_eq.mpr c10
            have c10b1 : (t153 != 0) = false := bne_eq_false_iff_eq.mpr c10
            clear c10
            replace H := Option.bind_eq_some_iff.mp H
            obtain ⟨⟨t154, t155, t156, t157⟩, A110, H⟩ := H
            replace H : (if (!t154 && (t155 == 0 && (!t156 && (t157.toList.isEmpty)))) = true then ((lookup_TypeResult.f y134 y137 y140 y143 ([] : List (S55)) ([] : List Bool) ([] : List Bool) 1).bind fun bt158 => (if (bt158.1 && (bt158.2.1 == 60 && (bt158.2.2.1 && (bt158.2.2.2.toList == ([65, 66, 67] : List UInt8))))) = true then ((lookup_State.f y134 y137 y140 y143 ([] : List (S55)) ([] : List Bool) ([] : List Bool) 0).bind fun bt162 => (if (!bt162.1 && (bt162.2.1 == 0 && (!bt162.2.2.1 && (bt162.2.2.2.toList.isEmpty)))) = true then ((lookup_State.f y134 y137 y140 y143 ([] : List (S55)) ([] : List Bool) ([] : List Bool) 1).bind fun bt166 => (if bt166.2.1 = 60 then ((lookup_Same.f y134 y137 y140 y143 ([] : List (S55)) ([] : List Bool) ([] : List Bool) 1 2).bind fun t170 => (if t170 = true then ((lookup_Same.f y134 y137 y140 y143 ([] : List (S55)) ([] : List Bool) ([] : List Bool) 0 1).bind fun t171 => (some (!t171))) else (none))) else (none))) else (none))) else (none))) else (none)) = some r := H
            have A11 := Aside0.mk A110
            clear A110
            by_cases c12 : (!t154 && (t155 == 0 && (!t156 && (t157.toList.isEmpty)))) = true
            · rw [if_pos c12] at H
              have c12b0 : (!t154 && (t155 == 0 && (!t156 && (t157.toList.isEmpty)))) = true := c12
              clear c12
              replace H := Option.bind_eq_some_iff.mp H
              obtain ⟨⟨t158, t159, t160, t161⟩, A130, H⟩ := H
              replace H : (if (t158 && (t159 == 60 && (t160 && (t161.toList == ([65, 66, 67] : List UInt8))))) = true then ((lookup_State.f y134 y137 y140 y143 ([] : List (S55)) ([] : List Bool) ([] : List Bool) 0).bind fun bt162 => (if (!bt162.1 && (bt162.2.1 == 0 && (!bt162.2.2.1 && (bt162.2.2.2.toList.isEmpty)))) = true then ((lookup_State.f y134 y137 y140 y143 ([] : List (S55)) ([] : List Bool) ([] : List Bool) 1).bind fun bt166 => (if bt166.2.1 = 60 then ((lookup_Same.f y134 y137 y140 y143 ([] : List (S55)) ([] : List Bool) ([] : List Bool) 1 2).bind fun t170 => (if t170 = true then ((lookup_Same.f y134 y137 y140 y143 ([] : List (S55)) ([] : List Bool) ([] : List Bool) 0 1).bind fun t171 => (some (!t171))) else (none))) else (none))) else (none))) else (none)) = some r := H
              have A13 := Aside0.mk A130
              clear A130
              by_cases c14 : (t158 && (t159 == 60 && (t160 && (t161.toList == ([65, 66, 67] : List UInt8))))) = true
              · rw [if_pos c14] at H
                have c14b0 : (t158 && (t159 == 60 && (t160 && (t161.toList == ([65, 66, 67] : List UInt8))))) = true := c14
                clear c14
                replace H := Option.bind_eq_some_iff.mp H
                obtain ⟨⟨t162, t163, t164, t165⟩, A150, H⟩ := H
                replace H : (if (!t162 && (t163 == 0 && (!t164 && (t165.toList.isEmpty)))) = true then ((lookup_State.f y134 y137 y140 y143 ([] : List (S55)) ([] : List Bool) ([] : List Bool) 1).bind fun bt166 => (if bt166.2.1 = 60 then ((lookup_Same.f y134 y137 y140 y143 ([] : List (S55)) ([] : List Bool) ([] : List Bool) 1 2).bind fun t170 => (if t170 = true then ((lookup_Same.f y134 y137 y140 y143 ([] : List (S55)) ([] : List Bool) ([] : List Bool) 0 1).bind fun t171 => (some (!t171))) else (none))) else (none))) else (none)) = some r := H
                have A15 := Aside0.mk A150
                clear A150
                by_cases c16 : (!t162 && (t163 == 0 && (!t164 && (t165.toList.isEmpty)))) = true
                · rw [if_pos c16] at H
                  have c16b0 : (!t162 && (t163 == 0 && (!t164 && (t165.toList.isEmpty)))) = true := c16
                  clear c16
                  replace H := Option.bind_eq_some_iff.mp H
                  obtain ⟨⟨t166, t167, t168, t169⟩, A170, H⟩ := H
                  replace H : (if t167 = 60 then ((lookup_Same.f y134 y137 y140 y143 ([] : List (S55)) ([] : List Bool) ([] : List Bool) 1 2).bind fun t170 => (if t170 = true then ((lookup_Same.f y134 y137 y140 y143 ([] : List (S55)) ([] : List Bool) ([] : List Bool) 0 1).bind fun t171 => (some (!t171))) else (none))) else (none)) = some r := H
                  have A17 := Aside0.mk A170
                  clear A170
                  by_cases c18 : t167 = 60
                  · rw [if_pos c18] at H
                    have c18b0 : (t167 == 60) = true := beq_iff_eq.mpr c18
                    have c18b1 : (t167 != 60) = false := bne_eq_false_iff_eq.mpr c18
                    clear c18
                    replace H := Option.bind_eq_some_iff.mp H
                    obtain ⟨t170, A190, H⟩ := H
                    replace H : (if t170 = true then ((lookup_Same.f y134 y137 y140 y143 ([] : List (S55)) ([] : List Bool) ([] : List Bool) 0 1).bind fun t171 => (some (!t171))) else (none)) = some r := H
                    have A19 := Aside0.mk A190
                    clear A190
                    by_cases c20 : t170 = true
                    · subst c20
                      have H1 : ((lookup_Same.f y134 y137 y140 y143 ([] : List (S55)) ([] : List Bool) ([] : List Bool) 0 1).bind fun t171 => (some (!t171))) = some r := by rw [if_pos rfl] at H; exact H
                      clear H
                      have H := H1
                      clear H1
                      replace H := Option.bind_eq_some_iff.mp H
                      obtain ⟨t171, A210, H⟩ := H
                      replace H : (some (!t171)) = some r := H
                      have A21 := Aside0.mk A210
                      clear A210
                      obtain rfl := Option.some.inj H
                      go_enter Try.func8, Try.ntmps8
                      (try simp only [List.append_eq, List.cons_append, List.nil_append])
                      go_wp2_with (first | ((with_reducible refine gate_dst (N := 3) rfl ?_); refine Kd.R_lit (Kd.int .i64) _ 2 ?hg (N := 3) ?hd (xs := ([10, 20] : List Int)) (inner := [.int .i64 10, .int .i64 20]) (ok := fun _ => True) (okp := fun _ => True) ?hr ?hp (fun _ hk => hk) trivial (Below.refl _ _) (Nat.le_refl _) (by simp) ?_; (case hd => rfl); (case hg => rfl); (case hr => first | (go_simp; done) | (go_simp; rfl)); (case hp => exact (Reps.one (show Kd.M (Kd.int .i64) _ _ _ 10 [.int .i64 10] from rfl) (Reps.one (show Kd.M (Kd.int .i64) _ _ _ 20 [.int .i64 20] from rfl) (Reps.none _ _)))); intro v132 w22 ho23 hb hg_ hnew_; clear hg_ hnew_; (first | rw [← Ny131.out] at ho23 | (simp only [Int.reduceToNat] at ho23; rw [← Ny131.out] at ho23)); have n0_ := Aside0.mk (Kd.R_lower ho23 (below_size (by repeat (first | (with_reducible first | exact HB.out | apply below_alloc | apply pw_below_drewN | apply below_drew1) | exact HB.out)))); have n1_ := Aside0.mk (below_step (by repeat (first | (with_reducible first | exact HB.out | apply below_alloc | apply pw_below_drewN | apply below_drew1) | exact HB.out)) hb); clear HB; have HO133 := n0_; have HB := n1_; clear n0_ n1_; clear hb ho23) | ((with_reducible refine gate_dst (N := 4) rfl ?_); refine Kd.R_lit (Kd.int .i64) _ 2 ?hg (N := 4) ?hd (xs := ([10] : List Int)) (inner := [.int .i64 10]) (ok := fun _ => True) (okp := fun _ => True) ?hr ?hp (fun _ hk => hk) trivial (Below.refl _ _) (Nat.le_refl _) (by simp) ?_; (case hd => rfl); (case hg => rfl); (case hr => first | (go_simp; done) | (go_simp; rfl)); (case hp => exact (Reps.one (show Kd.M (Kd.int .i64) _ _ _ 10 [.int .i64 10] from rfl) (Reps.none _ _))); intro v135 w24 ho25 hb hg_ hnew_; clear hg_ hnew_; (first | rw [← Ny134.out] at ho25 | (simp only [Int.reduceToNat] at ho25; rw [← Ny134.out] at ho25)); have n0_ := Aside0.mk (Kd.R_elder' (by (with_reducible repeat (first | apply Kd.R_alloc | apply Kd.R_drewN | apply Kd.R_drew)); exact HO133.out) (Kd.R_base ho25) hb); have n1_ := Aside0.mk (Kd.R_lower (Kd.R_new' ho25 (Kd.R_lt (by (with_reducible repeat (first | apply Kd.R_alloc | apply Kd.R_drewN | apply Kd.R_drew)); exact HO133.out))) (below_size (by repeat (first | (with_reducible first | exact HB.out | apply below_alloc | apply pw_below_drewN | apply below_drew1) | exact HB.out)))); have n2_ := Aside0.mk (below_step (by repeat (first | (with_reducible first | exact HB.out | apply below_alloc | apply pw_below_drewN | apply below_drew1) | exact HB.out)) hb); clear HO133; clear HB; have HO133 := n0_; have HO136 := n1_; have HB := n2_; clear n0_ n1_ n2_; clear hb ho25) | ((with_reducible refine gate_dst (N := 5) rfl ?_); refine Kd.R_lit (Kd.int .u8) _ 5 ?hg (N := 5) ?hd (xs := ([1] : List Int)) (inner := [.int .u8 1]) (ok := fun _ => True) (okp := fun _ => True) ?hr ?hp (fun _ hk => hk) trivial (Below.refl _ _) (Nat.le_refl _) (by simp) ?_; (case hd => rfl); (case hg => rfl); (case hr => first | (go_simp; done) | (go_simp; rfl)); (case hp => exact (Reps.one (show Kd.M (Kd.int .u8) _ _ _ 1 [.int .u8 1] from rfl) (Reps.none _ _))); intro v138 w26 ho27 hb hg_ hnew_; clear hg_ hnew_; (first | rw [← Ny137.out] at ho27 | (simp only [Int.reduceToNat] at ho27; rw [← Ny137.out] at ho27)); have n0_ := Aside0.mk (Kd.R_below (by (with_reducible repeat (first | apply Kd.R_alloc | apply Kd.R_drewN | apply Kd.R_drew)); exact HO133.out) hb); have n1_ := Aside0.mk (Kd.R_below (by (with_reducible repeat (first | apply Kd.R_alloc | apply Kd.R_drewN | apply Kd.R_drew)); exact HO136.out) hb); have n2_ := Aside0.mk (Kd.R_lower ho27 (below_size (by repeat (first | (with_reducible first | exact HB.out | apply below_alloc | apply pw_below_drewN | apply below_drew1) | exact HB.out)))); have n3_ := Aside0.mk (below_step (by repeat (first | (with_reducible first | exact HB.out | apply below_alloc | apply pw_below_drewN | apply below_drew1) | exact HB.out)) hb); clear HO133; clear HO136; clear HB; have HO133 := n0_; have HO136 := n1_; have HO139 := n2_; have HB := n3_; clear n0_ n1_ n2_ n3_; clear hb ho27) | ((with_reducible refine gate_dst (N := 9) rfl ?_); refine Kd.R_lit k42 _ 42 ?hg (N := 9) ?hd (xs := ([(⟨0, false, 4⟩ : S42), (⟨60, true, 0⟩ : S42), (⟨60, true, 0⟩ : S42)] : List (S42))) (inner := [.int .i32 0, .bool false, .int .u8 4, .int .i32 60, .bool true, .int .u8 0, .int .i32 60, .bool true, .int .u8 0]) (ok := fun _ => True) (okp := fun _ => True) ?hr ?hp (fun _ hk => hk) trivial (Below.refl _ _) (Nat.le_refl _) (by simp) ?_; (case hd => rfl); (case hg => rfl); (case hr => first | (go_simp; done) | (go_simp; rfl)); (case hp => exact (Reps.c3 (show Kd.M k42 _ _ _ (⟨0, false, 4⟩ : S42) [.int .i32 0, .bool false, .int .u8 4] from (k42_mkM _ _ _ (⟨0, false, 4⟩ : S42) )) (Reps.c3 (show Kd.M k42 _ _ _ (⟨60, true, 0⟩ : S42) [.int .i32 60, .bool true, .int .u8 0] from (k42_mkM _ _ _ (⟨60, true, 0⟩ : S42) )) (Reps.c3 (show Kd.M k42 _ _ _ (⟨60, true, 0⟩ : S42) [.int .i32 60, .bool true, .int .u8 0] from (k42_mkM _ _ _ (⟨60, true, 0⟩ : S42) )) (Reps.none _ _))))); intro v141 w28 ho29 hb hg_ hnew_; clear hg_ hnew_; (first | rw [← Ny140.out] at ho29 | (simp only [Int.reduceToNat] at ho29; rw [← Ny140.out] at ho29)); have n0_ := Aside0.mk (Kd.R_below (by (with_reducible repeat (first | apply Kd.R_alloc | apply Kd.R_drewN | apply Kd.R_drew)); exact HO133.out) hb); have n1_ := Aside0.mk (Kd.R_below (by (with_reducible repeat (first | apply Kd.R_alloc | apply Kd.R_drewN | apply Kd.R_drew)); exact HO136.out) hb); have n2_ := Aside0.mk (Kd.R_below (by (with_reducible repeat (first | apply Kd.R_alloc | apply Kd.R_drewN | apply Kd.R_drew)); exact HO139.out) hb); have n3_ := Aside0.mk (Kd.R_lower ho29 (below_size (by repeat (first | (with_reducible first | exact HB.out | apply below_alloc | apply pw_below_drewN | apply below_drew1) | exact HB.out)))); have n4_ := Aside0.mk (below_step (by repeat (first | (with_reducible first | exact HB.out | apply below_alloc | apply pw_below_drewN | apply below_drew1) | exact HB.out)) hb); clear HO133; clear HO136; clear HO139; clear HB; have HO133 := n0_; have HO136 := n1_; have HO139 := n2_; have HO142 := n3_; have HB := n4_; clear n0_ n1_ n2_ n3_ n4_; clear hb ho29) | ((with_reducible refine gate_dst (N := 10) rfl ?_); refine Kd.R_lit (Kd.int .u8) _ 5 ?hg (N := 10) ?hd (xs := ([65, 66, 67, 0, 45, 48, 48, 0] : List Int)) (inner := [.int .u8 65, .int .u8 66, .int .u8 67, .int .u8 0, .int .u8 45, .int .u8 48, .int .u8 48, .int .u8 0]) (ok := fun _ => True) (okp := fun _ => True) ?hr ?hp (fun _ hk => hk) trivial (Below.refl _ _) (Nat.le_refl _) (by simp) ?_; (case hd => rfl); (case hg => rfl); (case hr => first | (go_simp; done) | (go_simp; rfl)); (case hp => exact (Reps.one (show Kd.M (Kd.int .u8) _ _ _ 65 [.int .u8 65] from rfl) (Reps.one (show Kd.M (Kd.int .u8) _ _ _ 66 [.int .u8 66] from rfl) (Reps.one (show Kd.M (Kd.int .u8) _ _ _ 67 [.int .u8 67] from rfl) (Reps.one (show Kd.M (Kd.int .u8) _ _ _ 0 [.int .u8 0] from rfl) (Reps.one (show Kd.M (Kd.int .u8) _ _ _ 45 [.int .u8 45] from rfl) (Reps.one (show Kd.M (Kd.int .u8) _ _ _ 48 [.int .u8 48] from rfl) (Reps.one (show Kd.M (Kd.int .u8) _ _ _ 48 [.int .u8 48] from rfl) (Reps.one (show Kd.M (Kd.int .u8) _ _ _ 0 [.int .u8 0] from rfl) (Reps.none _ _)))))))))); intro v144 w30 ho31 hb hg_ hnew_; clear hg_ hnew_; (first | rw [← Ny143.out] at ho31 | (simp only [Int.reduceToNat] at ho31; rw [← Ny143.out] at ho31)); have n0_ := Aside0.mk (Kd.R_below (by (with_reducible repeat (first | apply Kd.R_alloc | apply Kd.R_drewN | apply Kd.R_drew)); exact HO133.out) hb); have n1_ := Aside0.mk (Kd.R_below (by (with_reducible repeat (first | apply Kd.R_alloc | apply Kd.R_drewN | apply Kd.R_drew)); exact HO136.out) hb); have n2_ := Aside0.mk (Kd.R_elder' (by (with_reducible repeat (first | apply Kd.R_alloc | apply Kd.R_drewN | apply Kd.R_drew)); exact HO139.out) (Kd.R_base ho31) hb); have n3_ := Aside0.mk (Kd.R_below (by (with_reducible repeat (first | apply Kd.R_alloc | apply Kd.R_drewN | apply Kd.R_drew)); exact HO142.out) hb); have n4_ := Aside0.mk (Kd.R_lower (Kd.R_new' ho31 (Kd.R_lt (by (with_reducible repeat (first | apply Kd.R_alloc | apply Kd.R_drewN | apply Kd.R_drew)); exact HO139.out))) (below_size (by repeat (first | (with_reducible first | exact HB.out | apply below_alloc | apply pw_below_drewN | apply below_drew1) | exact HB.out)))); have n5_ := Aside0.mk (below_step (by repeat (first | (with_reducible first | exact HB.out | apply below_alloc | apply pw_below_drewN | apply below_drew1) | exact HB.out)) hb); clear HO133; clear HO136; clear HO139; clear HO142; clear HB; have HO133 := n0_; have HO136 := n1_; have HO139 := n2_; have HO142 := n3_; have HO145 := n4_; have HB := n5_; clear n0_ n1_ n2_ n3_ n4_ n5_; clear hb ho31) | ((with_reducible refine gate_dst (N := 11) rfl ?_); refine Kd.R_conv (w0 := w) w.heap.size ?hg 23 5 (.tmp 10) ?hop Try.underlying23 Try.underlying5 v144 y143 ?ok ?hx ?aN ?aO ?aB ?aS ?_; (case hg => rfl); (case hop => rfl); (case hx => rfl); (case aN => rw [Ny143.out]; simp); (case aO => exact (by (with_reducible repeat (first | apply Kd.R_alloc | apply Kd.R_drewN | apply Kd.R_drew)); exact HO145.out)); (case aB => exact (by repeat (first | (with_reducible first | exact HB.out | apply below_alloc | apply pw_below_drewN | apply below_drew1) | exact HB.out))); (case aS => exact (below_size (by repeat (first | (with_reducible first | exact HB.out | apply below_alloc | apply pw_below_drewN | apply below_drew1) | exact HB.out)))); intro v146 w32 ho hb hg hat; have n0_ := Aside0.mk (Kd.R_over' (by (with_reducible repeat (first | apply Kd.R_alloc | apply Kd.R_drewN | apply Kd.R_drew)); exact HO133.out) (Kd.R_typed (by (with_reducible repeat (first | apply Kd.R_alloc | apply Kd.R_drewN | apply Kd.R_drew)); exact HO145.out)) (by decide) hg); have n1_ := Aside0.mk (Kd.R_over' (by (with_reducible repeat (first | apply Kd.R_alloc | apply Kd.R_drewN | apply Kd.R_drew)); exact HO136.out) (Kd.R_typed (by (with_reducible repeat (first | apply Kd.R_alloc | apply Kd.R_drewN | apply Kd.R_drew)); exact HO145.out)) (by decide) hg); have n2_ := Aside0.mk (Kd.R_after (ok := (fun _ => True)) (by (with_reducible repeat (first | apply Kd.R_alloc | apply Kd.R_drewN | apply Kd.R_drew)); exact HO139.out) hg hat); have n3_ := Aside0.mk (Kd.R_over' (by (with_reducible repeat (first | apply Kd.R_alloc | apply Kd.R_drewN | apply Kd.R_drew)); exact HO142.out) (Kd.R_typed (by (with_reducible repeat (first | apply Kd.R_alloc | apply Kd.R_drewN | apply Kd.R_drew)); exact HO145.out)) (by decide) hg); have n4_ := Aside0.mk (hb); have n5_ := Aside0.mk (ho); clear HO133; clear HO136; clear HO139; clear HO142; clear HB; clear HO145; have HO133 := n0_; have HO136 := n1_; have HO139 := n2_; have HO142 := n3_; have HB := n4_; have HO147 := n5_; clear n0_ n1_ n2_ n3_ n4_ n5_; clear ho hb hg hat; obtain ⟨Ao33, co33, eo33⟩ := Kd.V_slice HO147.out; subst eo33; obtain ⟨Ao34, co34, eo34⟩ := Kd.R_slice HO142.out; subst eo34; obtain ⟨Ao35, co35, eo35⟩ := Kd.R_slice HO139.out; subst eo35; obtain ⟨Ao36, co36, eo36⟩ := Kd.R_slice HO136.out; subst eo36) | ((with_reducible refine gate_dst (N := 2) rfl ?_); refine box_event ?hg (N := 2) ?hd (cs := #[.slice none 0 0, .slice none 0 0, .slice none 0 0, .slice none 0 0, .slice none 0 0, .slice none 0 0, .slice none 0 0]) (t := 28) ?hr ?_; (case hd => rfl); (case hg => rfl); (case hr => first | (go_simp; done) | (go_simp; rfl)); intro gb148 hg w37 hbox hb; have n0_ := Aside0.mk (Kd.R_below (by (with_reducible repeat (first | apply Kd.R_alloc | apply Kd.R_drewN | apply Kd.R_drew)); exact HO133.out) hb); have n1_ := Aside0.mk (Kd.R_below (by (with_reducible repeat (first | apply Kd.R_alloc | apply Kd.R_drewN | apply Kd.R_drew)); exact HO136.out) hb); have n2_ := Aside0.mk (Kd.R_below (by (with_reducible repeat (first | apply Kd.R_alloc | apply Kd.R_drewN | apply Kd.R_drew)); exact HO139.out) hb); have n3_ := Aside0.mk (Kd.R_below (by (with_reducible repeat (first | apply Kd.R_alloc | apply Kd.R_drewN | apply Kd.R_drew)); exact HO142.out) hb); have n4_ := Aside0.mk (Kd.V_below (Kd.V_elderB (by (with_reducible repeat (first | apply Kd.V_alloc | apply Kd.V_drewN | apply Kd.V_drew)); exact HO147.out) gb148 (Nat.le_of_eq hg.symm)) hb); have n5_ := Aside0.mk (below_step (by repeat (first | (with_reducible first | exact HB.out | apply below_alloc | apply pw_below_drewN | apply below_drew1) | exact HB.out)) hb); have n6_ := Aside0.mk (hbox); have n7_ := Aside0.mk ((by rw [hg]; exact (below_size (by repeat (first | (with_reducible first | exact HB.out | apply below_alloc | apply pw_below_drewN | apply below_drew1) | exact HB.out))) : w.heap.size ≤ gb148)); have n8_ := Aside0.mk ((by rw [hg]; exact (below_size (by repeat (first | (with_reducible first | exact HB.out | apply below_alloc | apply pw_below_drewN | apply below_drew1) | exact HB.out))) : w.heap.size ≤ gb148)); clear HO133; clear HO136; clear HO139; clear HO142; clear HO147; clear HB; have HO133 := n0_; have HO136 := n1_; have HO139 := n2_; have HO142 := n3_; have HO147 := n4_; have HB := n5_; have BK148 := n6_; have GW148 := n7_; have GE148 := n8_; clear n0_ n1_ n2_ n3_ n4_ n5_ n6_ n7_ n8_; clear hb hbox hg; have hcz38_0 : w37.cell? ⟨gb148, 0, none⟩ = some (.slice none 0 0) := (blk_cell BK148.out 0).trans rfl; have hcz38_1 : w37.cell? ⟨gb148, 1, none⟩ = some (.slice none 0 0) := (blk_cell BK148.out 1).trans rfl; have hcz38_2 : w37.cell? ⟨gb148, 2, none⟩ = some (.slice none 0 0) := (blk_cell BK148.out 2).trans rfl; have hcz38_3 : w37.cell? ⟨gb148, 3, none⟩ = some (.slice none 0 0) := (blk_cell BK148.out 3).trans rfl; have hcz38_4 : w37.cell? ⟨gb148, 4, none⟩ = some (.slice none 0 0) := (blk_cell BK148.out 4).trans rfl; have hcz38_5 : w37.cell? ⟨gb148, 5, none⟩ = some (.slice none 0 0) := (blk_cell BK148.out 5).trans rfl; have hcz38_6 : w37.cell? ⟨gb148, 6, none⟩ = some (.slice none 0 0) := (blk_cell BK148.out 6).trans rfl; have hfz38_0 := blk_frozen BK148.out 0; have hfz38_1 := blk_frozen BK148.out 1; have hfz38_2 := blk_frozen BK148.out 2; have hfz38_3 := blk_frozen BK148.out 3; have hfz38_4 := blk_frozen BK148.out 4; have hfz38_5 := blk_frozen BK148.out 5; have hfz38_6 := blk_frozen BK148.out 6; obtain ⟨Ao39, co39, eo39⟩ := Kd.R_slice HO133.out; subst eo39) | (go_at_call 10; (with_reducible refine (lookup_Rank.calls k _ _ y131 9 t149 _ ?side1 ?side2 A1.out).mono ?_); (case side1 => refine (Kd.R_reads' (e := 2) (base := w.heap.size) (ok := fun k_ => (True ∧ some k_ ≠ (.slice Ao36 y134.length co36 : Value).ownBlock)) (n := y131.length) (c := co39) ?_).2.2; exact (by (with_reducible repeat (first | apply Kd.R_alloc | apply Kd.R_drewN | apply Kd.R_drew)); exact (Kd.R_mono (Kd.R_far (p := ⟨gb148, 6, none⟩) (Kd.R_far (p := ⟨gb148, 5, none⟩) (Kd.R_far (p := ⟨gb148, 4, none⟩) (Kd.R_far (p := ⟨gb148, 3, none⟩) (Kd.R_far (p := ⟨gb148, 2, none⟩) (Kd.R_far (p := ⟨gb148, 1, none⟩) (Kd.R_far (p := ⟨gb148, 0, none⟩) (Kd.R_types HO133.out BK148.out (by decide)) (fun _ hk => hk.2) (.slice Ao36 y134.length co36)) (fun _ hk => hk.2) (.slice Ao35 y137.length co35)) (fun _ hk => hk.2) (.slice Ao34 y140.length co34)) (fun _ hk => hk.2) (.slice Ao33 y143.length co33)) (fun _ hk => hk.2) (.slice none 0 0)) (fun _ hk => hk.2) (.slice none 0 0)) (fun _ hk => hk.2) (.slice none 0 0)) (fun _ h_ => h_.1)))); (case side2 => exact (Kd.R_reads' HO133.out).2.1); rintro e w' ⟨rfl, ⟨nd, rfl⟩⟩) | (go_at_call 10; (with_reducible refine (lookup_Rank.calls k _ _ y131 10 t150 _ ?side1 ?side2 A3.out).mono ?_); (case side1 => refine (Kd.R_reads' (e := 2) (base := w.heap.size) (ok := fun k_ => (True ∧ some k_ ≠ (.slice Ao36 y134.length co36 : Value).ownBlock)) (n := y131.length) (c := co39) ?_).2.2; exact (by (with_reducible repeat (first | apply Kd.R_alloc | apply Kd.R_drewN | apply Kd.R_drew)); exact (Kd.R_mono (Kd.R_far (p := ⟨gb148, 6, none⟩) (Kd.R_far (p := ⟨gb148, 5, none⟩) (Kd.R_far (p := ⟨gb148, 4, none⟩) (Kd.R_far (p := ⟨gb148, 3, none⟩) (Kd.R_far (p := ⟨gb148, 2, none⟩) (Kd.R_far (p := ⟨gb148, 1, none⟩) (Kd.R_far (p := ⟨gb148, 0, none⟩) (Kd.R_types HO133.out BK148.out (by decide)) (fun _ hk => hk.2) (.slice Ao36 y134.length co36)) (fun _ hk => hk.2) (.slice Ao35 y137.length co35)) (fun _ hk => hk.2) (.slice Ao34 y140.length co34)) (fun _ hk => hk.2) (.slice Ao33 y143.length co33)) (fun _ hk => hk.2) (.slice none 0 0)) (fun _ hk => hk.2) (.slice none 0 0)) (fun _ hk => hk.2) (.slice none 0 0)) (fun _ h_ => h_.1)))); (case side2 => exact (Kd.R_reads' HO133.out).2.1); rintro e w' ⟨rfl, ⟨nd, rfl⟩⟩) | (go_at_call 10; (with_reducible refine (lookup_Rank.calls k _ _ y131 19 t151 _ ?side1 ?side2 A5.out).mono ?_); (case side1 => refine (Kd.R_reads' (e := 2) (base := w.heap.size) (ok := fun k_ => (True ∧ some k_ ≠ (.slice Ao36 y134.length co36 : Value).ownBlock)) (n := y131.length) (c := co39) ?_).2.2; exact (by (with_reducible repeat (first | apply Kd.R_alloc | apply Kd.R_drewN | apply Kd.R_drew)); exact (Kd.R_mono (Kd.R_far (p := ⟨gb148, 6, none⟩) (Kd.R_far (p := ⟨gb148, 5, none⟩) (Kd.R_far (p := ⟨gb148, 4, none⟩) (Kd.R_far (p := ⟨gb148, 3, none⟩) (Kd.R_far (p := ⟨gb148, 2, none⟩) (Kd.R_far (p := ⟨gb148, 1, none⟩) (Kd.R_far (p := ⟨gb148, 0, none⟩) (Kd.R_types HO133.out BK148.out (by decide)) (fun _ hk => hk.2) (.slice Ao36 y134.length co36)) (fun _ hk => hk.2) (.slice Ao35 y137.length co35)) (fun _ hk => hk.2) (.slice Ao34 y140.length co34)) (fun _ hk => hk.2) (.slice Ao33 y143.length co33)) (fun _ hk => hk.2) (.slice none 0 0)) (fun _ hk => hk.2) (.slice none 0 0)) (fun _ hk => hk.2) (.slice none 0 0)) (fun _ h_ => h_.1)))); (case side2 => exact (Kd.R_reads' HO133.out).2.1); rintro e w' ⟨rfl, ⟨nd, rfl⟩⟩) | (go_at_call 10; (with_reducible refine (lookup_Rank.calls k _ _ y131 20 t152 _ ?side1 ?side2 A7.out).mono ?_); (case side1 => refine (Kd.R_reads' (e := 2) (base := w.heap.size) (ok := fun k_ => (True ∧ some k_ ≠ (.slice Ao36 y134.length co36 : Value).ownBlock)) (n := y131.length) (c := co39) ?_).2.2; exact (by (with_reducible repeat (first | apply Kd.R_alloc | apply Kd.R_drewN | apply Kd.R_drew)); exact (Kd.R_mono (Kd.R_far (p := ⟨gb148, 6, none⟩) (Kd.R_far (p := ⟨gb148, 5, none⟩) (Kd.R_far (p := ⟨gb148, 4, none⟩) (Kd.R_far (p := ⟨gb148, 3, none⟩) (Kd.R_far (p := ⟨gb148, 2, none⟩) (Kd.R_far (p := ⟨gb148, 1, none⟩) (Kd.R_far (p := ⟨gb148, 0, none⟩) (Kd.R_types HO133.out BK148.out (by decide)) (fun _ hk => hk.2) (.slice Ao36 y134.length co36)) (fun _ hk => hk.2) (.slice Ao35 y137.length co35)) (fun _ hk => hk.2) (.slice Ao34 y140.length co34)) (fun _ hk => hk.2) (.slice Ao33 y143.length co33)) (fun _ hk => hk.2) (.slice none 0 0)) (fun _ hk => hk.2) (.slice none 0 0)) (fun _ hk => hk.2) (.slice none 0 0)) (fun _ h_ => h_.1)))); (case side2 => exact (Kd.R_reads' HO133.out).2.1); rintro e w' ⟨rfl, ⟨nd, rfl⟩⟩) | (go_at_call 10; refine calls_of_args (args' := #[.slice none ([] : List Int).length 0, .int .i64 5]) (by rfl) ?_; (with_reducible refine (lookup_Rank.calls k _ _ ([] : List Int) 5 t153 _ ?side1 ?side2 A9.out).mono ?_); (case side1 => exact Kd.C_nil _ _); (case side2 => exact Nat.le_refl _); rintro e w' ⟨rfl, ⟨nd, rfl⟩⟩) | (go_at_call 14; refine calls_of_args (args' := #[.agg #[.slice Ao36 y134.length co36, .slice Ao35 y137.length co35, .slice Ao34 y140.length co34, .slice Ao33 y143.length co33, .slice none ([] : List (S55)).length 0, .slice none ([] : List Bool).length 0, .slice none ([] : List Bool).length 0], .int .i64 0]) (by rfl) ?_; (with_reducible refine (lookup_TypeResult.calls _ _ y134 _ _ y137 _ _ y140 _ _ y143 _ _ ([] : List (S55)) _ _ ([] : List Bool) _ _ ([] : List Bool) 0 t154 t155 t156 t157 _ ?side1 ?side2 ?side3 ?side4 ?side5 ?side6 ?side7 ?side8 ?side9 ?side10 ?side11 ?side12 ?side13 ?side14 A11.out).mono ?_); (case side1 => refine (Kd.R_reads' (e := 2) (base := w.heap.size) (ok := fun k_ => (True ∧ some k_ ≠ (.slice Ao39 y131.length co39 : Value).ownBlock)) (n := y134.length) (c := co36) ?_).2.2; exact (by (with_reducible repeat (first | apply Kd.R_alloc | apply Kd.R_drewN | apply Kd.R_drew)); exact (Kd.R_mono (Kd.R_far (p := ⟨gb148, 6, none⟩) (Kd.R_far (p := ⟨gb148, 5, none⟩) (Kd.R_far (p := ⟨gb148, 4, none⟩) (Kd.R_far (p := ⟨gb148, 3, none⟩) (Kd.R_far (p := ⟨gb148, 2, none⟩) (Kd.R_far (p := ⟨gb148, 1, none⟩) (Kd.R_far (p := ⟨gb148, 0, none⟩) (Kd.R_types HO136.out BK148.out (by decide)) (fun _ hk => hk.2) (.slice Ao36 y134.length co36)) (fun _ hk => hk.2) (.slice Ao35 y137.length co35)) (fun _ hk => hk.2) (.slice Ao34 y140.length co34)) (fun _ hk => hk.2) (.slice Ao33 y143.length co33)) (fun _ hk => hk.2) (.slice none 0 0)) (fun _ hk => hk.2) (.slice none 0 0)) (fun _ hk => hk.2) (.slice none 0 0)) (fun _ h_ => h_.1)))); (case side2 => exact (Kd.R_reads' HO136.out).2.1); (case side3 => refine (Kd.R_reads' (e := 5) (base := w.heap.size) (ok := fun k_ => (True ∧ some k_ ≠ (.slice Ao33 y143.length co33 : Value).ownBlock)) (n := y137.length) (c := co35) ?_).2.2; exact (by (with_reducible repeat (first | apply Kd.R_alloc | apply Kd.R_drewN | apply Kd.R_drew)); exact (Kd.R_mono (Kd.R_far (p := ⟨gb148, 6, none⟩) (Kd.R_far (p := ⟨gb148, 5, none⟩) (Kd.R_far (p := ⟨gb148, 4, none⟩) (Kd.R_far (p := ⟨gb148, 3, none⟩) (Kd.R_far (p := ⟨gb148, 2, none⟩) (Kd.R_far (p := ⟨gb148, 1, none⟩) (Kd.R_far (p := ⟨gb148, 0, none⟩) (Kd.R_types HO139.out BK148.out (by decide)) (fun _ hk => hk.2) (.slice Ao36 y134.length co36)) (fun _ hk => hk.2) (.slice Ao35 y137.length co35)) (fun _ hk => hk.2) (.slice Ao34 y140.length co34)) (fun _ hk => hk.2) (.slice Ao33 y143.length co33)) (fun _ hk => hk.2) (.slice none 0 0)) (fun _ hk => hk.2) (.slice none 0 0)) (fun _ hk => hk.2) (.slice none 0 0)) (fun _ h_ => h_.1)))); (case side4 => exact (Kd.R_reads' HO139.out).2.1); (case side5 => refine (Kd.R_reads' (e := 42) (base := w.heap.size) (ok := fun k_ => True) (n := y140.length) (c := co34) ?_).2.2; exact (by (with_reducible repeat (first | apply Kd.R_alloc | apply Kd.R_drewN | apply Kd.R_drew)); exact (Kd.R_mono (Kd.R_far (p := ⟨gb148, 6, none⟩) (Kd.R_far (p := ⟨gb148, 5, none⟩) (Kd.R_far (p := ⟨gb148, 4, none⟩) (Kd.R_far (p := ⟨gb148, 3, none⟩) (Kd.R_far (p := ⟨gb148, 2, none⟩) (Kd.R_far (p := ⟨gb148, 1, none⟩) (Kd.R_far (p := ⟨gb148, 0, none⟩) (Kd.R_types HO142.out BK148.out (by decide)) (fun _ hk => hk.2) (.slice Ao36 y134.length co36)) (fun _ hk => hk.2) (.slice Ao35 y137.length co35)) (fun _ hk => hk.2) (.slice Ao34 y140.length co34)) (fun _ hk => hk.2) (.slice Ao33 y143.length co33)) (fun _ hk => hk.2) (.slice none 0 0)) (fun _ hk => hk.2) (.slice none 0 0)) (fun _ hk => hk.2) (.slice none 0 0)) (fun _ h_ => h_.1)))); (case side6 => exact (Kd.R_reads' HO142.out).2.1); (case side7 => refine (Kd.V_reads' (e := 5) (base := w.heap.size) (ok := fun k_ => ((True ∧ some k_ ≠ (.slice Ao35 y137.length co35 : Value).ownBlock) ∧ k_ ≠ gb148)) (n := y143.length) (c := co33) ?_).2.2; exact (by (with_reducible repeat (first | apply Kd.V_alloc | apply Kd.V_drewN | apply Kd.V_drew)); exact (Kd.V_mono (Kd.V_far (p := ⟨gb148, 6, none⟩) (Kd.V_far (p := ⟨gb148, 5, none⟩) (Kd.V_far (p := ⟨gb148, 4, none⟩) (Kd.V_far (p := ⟨gb148, 3, none⟩) (Kd.V_far (p := ⟨gb148, 2, none⟩) (Kd.V_far (p := ⟨gb148, 1, none⟩) (Kd.V_far (p := ⟨gb148, 0, none⟩) (Kd.V_mono HO147.out (fun k_ hk => (⟨hk, hk.2⟩ : _ ∧ k_ ≠ gb148))) (fun _ hk => hk.2) (.slice Ao36 y134.length co36)) (fun _ hk => hk.2) (.slice Ao35 y137.length co35)) (fun _ hk => hk.2) (.slice Ao34 y140.length co34)) (fun _ hk => hk.2) (.slice Ao33 y143.length co33)) (fun _ hk => hk.2) (.slice none 0 0)) (fun _ hk => hk.2) (.slice none 0 0)) (fun _ hk => hk.2) (.slice none 0 0)) (fun _ h_ => h_.1)))); (case side8 => exact (Kd.V_reads' HO147.out).2.1); (case side9 => exact Kd.C_nil _ _); (case side10 => exact Nat.le_refl _); (case side11 => exact Kd.C_nil _ _); (case side12 => exact Nat.le_refl _); (case side13 => exact Kd.C_nil _ _); (case side14 => exact Nat.le_refl _); rintro e w40 ⟨rfl, hb⟩; have n0_ := Aside0.mk (Kd.R_below (by (with_reducible repeat (first | apply Kd.R_alloc | apply Kd.R_drewN | apply Kd.R_drew)); exact (Kd.R_mono (Kd.R_far (p := ⟨gb148, 6, none⟩) (Kd.R_far (p := ⟨gb148, 5, none⟩) (Kd.R_far (p := ⟨gb148, 4, none⟩) (Kd.R_far (p := ⟨gb148, 3, none⟩) (Kd.R_far (p := ⟨gb148, 2, none⟩) (Kd.R_far (p := ⟨gb148, 1, none⟩) (Kd.R_far (p := ⟨gb148, 0, none⟩) (Kd.R_types HO133.out BK148.out (by decide)) (fun _ hk => hk.2) (.slice Ao36 y134.length co36)) (fun _ hk => hk.2) (.slice Ao35 y137.length co35)) (fun _ hk => hk.2) (.slice Ao34 y140.length co34)) (fun _ hk => hk.2) (.slice Ao33 y143.length co33)) (fun _ hk => hk.2) (.slice none 0 0)) (fun _ hk => hk.2) (.slice none 0 0)) (fun _ hk => hk.2) (.slice none 0 0)) (fun _ h_ => h_.1))) hb); have n1_ := Aside0.mk (Kd.R_below (by (with_reducible repeat (first | apply Kd.R_alloc | apply Kd.R_drewN | apply Kd.R_drew)); exact (Kd.R_mono (Kd.R_far (p := ⟨gb148, 6, none⟩) (Kd.R_far (p := ⟨gb148, 5, none⟩) (Kd.R_far (p := ⟨gb148, 4, none⟩) (Kd.R_far (p := ⟨gb148, 3, none⟩) (Kd.R_far (p := ⟨gb148, 2, none⟩) (Kd.R_far (p := ⟨gb148, 1, none⟩) (Kd.R_far (p := ⟨gb148, 0, none⟩) (Kd.R_types HO136.out BK148.out (by decide)) (fun _ hk => hk.2) (.slice Ao36 y134.length co36)) (fun _ hk => hk.2) (.slice Ao35 y137.length co35)) (fun _ hk => hk.2) (.slice Ao34 y140.length co34)) (fun _ hk => hk.2) (.slice Ao33 y143.length co33)) (fun _ hk => hk.2) (.slice none 0 0)) (fun _ hk => hk.2) (.slice none 0 0)) (fun _ hk => hk.2) (.slice none 0 0)) (fun _ h_ => h_.1))) hb); have n2_ := Aside0.mk (Kd.R_below (by (with_reducible repeat (first | apply Kd.R_alloc | apply Kd.R_drewN | apply Kd.R_drew)); exact (Kd.R_mono (Kd.R_far (p := ⟨gb148, 6, none⟩) (Kd.R_far (p := ⟨gb148, 5, none⟩) (Kd.R_far (p := ⟨gb148, 4, none⟩) (Kd.R_far (p := ⟨gb148, 3, none⟩) (Kd.R_far (p := ⟨gb148, 2, none⟩) (Kd.R_far (p := ⟨gb148, 1, none⟩) (Kd.R_far (p := ⟨gb148, 0, none⟩) (Kd.R_types HO139.out BK148.out (by decide)) (fun _ hk => hk.2) (.slice Ao36 y134.length co36)) (fun _ hk => hk.2) (.slice Ao35 y137.length co35)) (fun _ hk => hk.2) (.slice Ao34 y140.length co34)) (fun _ hk => hk.2) (.slice Ao33 y143.length co33)) (fun _ hk => hk.2) (.slice none 0 0)) (fun _ hk => hk.2) (.slice none 0 0)) (fun _ hk => hk.2) (.slice none 0 0)) (fun _ h_ => h_.1))) hb); have n3_ := Aside0.mk (Kd.R_below (by (with_reducible repeat (first | apply Kd.R_alloc | apply Kd.R_drewN | apply Kd.R_drew)); exact (Kd.R_mono (Kd.R_far (p := ⟨gb148, 6, none⟩) (Kd.R_far (p := ⟨gb148, 5, none⟩) (Kd.R_far (p := ⟨gb148, 4, none⟩) (Kd.R_far (p := ⟨gb148, 3, none⟩) (Kd.R_far (p := ⟨gb148, 2, none⟩) (Kd.R_far (p := ⟨gb148, 1, none⟩) (Kd.R_far (p := ⟨gb148, 0, none⟩) (Kd.R_types HO142.out BK148.out (by decide)) (fun _ hk => hk.2) (.slice Ao36 y134.length co36)) (fun _ hk => hk.2) (.slice Ao35 y137.length co35)) (fun _ hk => hk.2) (.slice Ao34 y140.length co34)) (fun _ hk => hk.2) (.slice Ao33 y143.length co33)) (fun _ hk => hk.2) (.slice none 0 0)) (fun _ hk => hk.2) (.slice none 0 0)) (fun _ hk => hk.2) (.slice none 0 0)) (fun _ h_ => h_.1))) hb); have n4_ := Aside0.mk (Kd.V_below (by (with_reducible repeat (first | apply Kd.V_alloc | apply Kd.V_drewN | apply Kd.V_drew)); exact (Kd.V_mono (Kd.V_far (p := ⟨gb148, 6, none⟩) (Kd.V_far (p := ⟨gb148, 5, none⟩) (Kd.V_far (p := ⟨gb148, 4, none⟩) (Kd.V_far (p := ⟨gb148, 3, none⟩) (Kd.V_far (p := ⟨gb148, 2, none⟩) (Kd.V_far (p := ⟨gb148, 1, none⟩) (Kd.V_far (p := ⟨gb148, 0, none⟩) (Kd.V_mono HO147.out (fun k_ hk => (⟨hk, hk.2⟩ : _ ∧ k_ ≠ gb148))) (fun _ hk => hk.2) (.slice Ao36 y134.length co36)) (fun _ hk => hk.2) (.slice Ao35 y137.length co35)) (fun _ hk => hk.2) (.slice Ao34 y140.length co34)) (fun _ hk => hk.2) (.slice Ao33 y143.length co33)) (fun _ hk => hk.2) (.slice none 0 0)) (fun _ hk => hk.2) (.slice none 0 0)) (fun _ hk => hk.2) (.slice none 0 0)) (fun _ h_ => h_.1))) hb); have n5_ := Aside0.mk (blk_below (g := gb148) (o := .cells #[.slice Ao36 y134.length co36, .slice Ao35 y137.length co35, .slice Ao34 y140.length co34, .slice Ao33 y143.length co33, .slice none 0 0, .slice none 0 0, .slice none 0 0] 28 (0, 0)) (by (with_reducible repeat (first | refine blk_drewN ?_ _ | refine blk_drew ?_ | refine blk_alloc ?_ _)); refine blk_put (cs := #[.slice Ao36 y134.length co36, .slice Ao35 y137.length co35, .slice Ao34 y140.length co34, .slice Ao33 y143.length co33, .slice none 0 0, .slice none 0 0, .slice none 0 0]) ?_ 6 _ rfl; (with_reducible repeat (first | refine blk_drewN ?_ _ | refine blk_drew ?_ | refine blk_alloc ?_ _)); refine blk_put (cs := #[.slice Ao36 y134.length co36, .slice Ao35 y137.length co35, .slice Ao34 y140.length co34, .slice Ao33 y143.length co33, .slice none 0 0, .slice none 0 0, .slice none 0 0]) ?_ 5 _ rfl; (with_reducible repeat (first | refine blk_drewN ?_ _ | refine blk_drew ?_ | refine blk_alloc ?_ _)); refine blk_put (cs := #[.slice Ao36 y134.length co36, .slice Ao35 y137.length co35, .slice Ao34 y140.length co34, .slice Ao33 y143.length co33, .slice none 0 0, .slice none 0 0, .slice none 0 0]) ?_ 4 _ rfl; (with_reducible repeat (first | refine blk_drewN ?_ _ | refine blk_drew ?_ | refine blk_alloc ?_ _)); refine blk_put (cs := #[.slice Ao36 y134.length co36, .slice Ao35 y137.length co35, .slice Ao34 y140.length co34, .slice none 0 0, .slice none 0 0, .slice none 0 0, .slice none 0 0]) ?_ 3 _ rfl; (with_reducible repeat (first | refine blk_drewN ?_ _ | refine blk_drew ?_ | refine blk_alloc ?_ _)); refine blk_put (cs := #[.slice Ao36 y134.length co36, .slice Ao35 y137.length co35, .slice none 0 0, .slice none 0 0, .slice none 0 0, .slice none 0 0, .slice none 0 0]) ?_ 2 _ rfl; (with_reducible repeat (first | refine blk_drewN ?_ _ | refine blk_drew ?_ | refine blk_alloc ?_ _)); refine blk_put (cs := #[.slice Ao36 y134.length co36, .slice none 0 0, .slice none 0 0, .slice none 0 0, .slice none 0 0, .slice none 0 0, .slice none 0 0]) ?_ 1 _ rfl; (with_reducible repeat (first | refine blk_drewN ?_ _ | refine blk_drew ?_ | refine blk_alloc ?_ _)); refine blk_put (cs := #[.slice none 0 0, .slice none 0 0, .slice none 0 0, .slice none 0 0, .slice none 0 0, .slice none 0 0, .slice none 0 0]) ?_ 0 _ rfl; (with_reducible repeat (first | refine blk_drewN ?_ _ | refine blk_drew ?_ | refine blk_alloc ?_ _)); exact BK148.out) hb); have n6_ := Aside0.mk (below_step (by repeat (first | (with_reducible first | exact HB.out | apply below_alloc | apply pw_below_drewN | apply below_drew1 | refine below_set ?_ GE148.out) | exact HB.out)) hb); clear HO133; clear HO136; clear HO139; clear HO142; clear HO147; clear BK148; clear HB; have HO133 := n0_; have HO136 := n1_; have HO139 := n2_; have HO142 := n3_; have HO147 := n4_; have BK148 := n5_; have HB := n6_; clear n0_ n1_ n2_ n3_ n4_ n5_ n6_; (try clear hb); (try clear hb2); (try clear hk); (try clear hi); have hcz41_0 : w40.cell? ⟨gb148, 0, none⟩ = some (.slice Ao36 y134.length co36) := (blk_cell BK148.out 0).trans rfl; have hcz41_1 : w40.cell? ⟨gb148, 1, none⟩ = some (.slice Ao35 y137.length co35) := (blk_cell BK148.out 1).trans rfl; have hcz41_2 : w40.cell? ⟨gb148, 2, none⟩ = some (.slice Ao34 y140.length co34) := (blk_cell BK148.out 2).trans rfl; have hcz41_3 : w40.cell? ⟨gb148, 3, none⟩ = some (.slice Ao33 y143.length co33) := (blk_cell BK148.out 3).trans rfl; have hcz41_4 : w40.cell? ⟨gb148, 4, none⟩ = some (.slice none 0 0) := (blk_cell BK148.out 4).trans rfl; have hcz41_5 : w40.cell? ⟨gb148, 5, none⟩ = some (.slice none 0 0) := (blk_cell BK148.out 5).trans rfl; have hcz41_6 : w40.cell? ⟨gb148, 6, none⟩ = some (.slice none 0 0) := (blk_cell BK148.out 6).trans rfl; have hfz41_0 := blk_frozen BK148.out 0; have hfz41_1 := blk_frozen BK148.out 1; have hfz41_2 := blk_frozen BK148.out 2; have hfz41_3 := blk_frozen BK148.out 3; have hfz41_4 := blk_frozen BK148.out 4; have hfz41_5 := blk_frozen BK148.out 5; have hfz41_6 := blk_frozen BK148.out 6) | (go_at_call 14; refine calls_of_args (args' := #[.agg #[.slice Ao36 y134.length co36, .slice Ao35 y137.length co35, .slice Ao34 y140.length co34, .slice Ao33 y143.length co33, .slice none ([] : List (S55)).length 0, .slice none ([] : List Bool).length 0, .slice none ([] : List Bool).length 0], .int .i64 1]) (by rfl) ?_; (with_reducible refine (lookup_TypeResult.calls _ _ y134 _ _ y137 _ _ y140 _ _ y143 _ _ ([] : List (S55)) _ _ ([] : List Bool) _ _ ([] : List Bool) 1 t158 t159 t160 t161 _ ?side1 ?side2 ?side3 ?side4 ?side5 ?side6 ?side7 ?side8 ?side9 ?side10 ?side11 ?side12 ?side13 ?side14 A13.out).mono ?_); (case side1 => repeat (first | exact (Kd.R_reads' HO136.out).2.2 | (with_reducible refine Kd.C_alloc ?_ _) | (with_reducible refine Kd.C_drewN ?_ _) | (with_reducible refine Kd.C_drew ?_))); (case side2 => exact (Kd.R_reads' HO136.out).2.1); (case side3 => repeat (first | exact (Kd.R_reads' HO139.out).2.2 | (with_reducible refine Kd.C_alloc ?_ _) | (with_reducible refine Kd.C_drewN ?_ _) | (with_reducible refine Kd.C_drew ?_))); (case side4 => exact (Kd.R_reads' HO139.out).2.1); (case side5 => repeat (first | exact (Kd.R_reads' HO142.out).2.2 | (with_reducible refine Kd.C_alloc ?_ _) | (with_reducible refine Kd.C_drewN ?_ _) | (with_reducible refine Kd.C_drew ?_))); (case side6 => exact (Kd.R_reads' HO142.out).2.1); (case side7 => repeat (first | exact (Kd.V_reads' HO147.out).2.2 | (with_reducible refine Kd.C_alloc ?_ _) | (with_reducible refine Kd.C_drewN ?_ _) | (with_reducible refine Kd.C_drew ?_))); (case side8 => exact (Kd.V_reads' HO147.out).2.1); (case side9 => exact Kd.C_nil _ _); (case side10 => exact Nat.le_refl _); (case side11 => exact Kd.C_nil _ _); (case side12 => exact Nat.le_refl _); (case side13 => exact Kd.C_nil _ _); (case side14 => exact Nat.le_refl _); rintro e w42 ⟨rfl, hb⟩; have n0_ := Aside0.mk (Kd.R_below (by (with_reducible repeat (first | apply Kd.R_alloc | apply Kd.R_drewN | apply Kd.R_drew)); exact HO133.out) hb); have n1_ := Aside0.mk (Kd.R_below (by (with_reducible repeat (first | apply Kd.R_alloc | apply Kd.R_drewN | apply Kd.R_drew)); exact HO136.out) hb); have n2_ := Aside0.mk (Kd.R_below (by (with_reducible repeat (first | apply Kd.R_alloc | apply Kd.R_drewN | apply Kd.R_drew)); exact HO139.out) hb); have n3_ := Aside0.mk (Kd.R_below (by (with_reducible repeat (first | apply Kd.R_alloc | apply Kd.R_drewN | apply Kd.R_drew)); exact HO142.out) hb); have n4_ := Aside0.mk (Kd.V_below (by (with_reducible repeat (first | apply Kd.V_alloc | apply Kd.V_drewN | apply Kd.V_drew)); exact HO147.out) hb); have n5_ := Aside0.mk (blk_below (g := gb148) (o := .cells #[.slice Ao36 y134.length co36, .slice Ao35 y137.length co35, .slice Ao34 y140.length co34, .slice Ao33 y143.length co33, .slice none 0 0, .slice none 0 0, .slice none 0 0] 28 (0, 0)) (by (with_reducible repeat (first | refine blk_drewN ?_ _ | refine blk_drew ?_ | refine blk_alloc ?_ _)); exact BK148.out) hb); have n6_ := Aside0.mk (below_step (by repeat (first | (with_reducible first | exact HB.out | apply below_alloc | apply pw_below_drewN | apply below_drew1 | refine below_set ?_ GE148.out) | exact HB.out)) hb); clear HO133; clear HO136; clear HO139; clear HO142; clear HO147; clear BK148; clear HB; have HO133 := n0_; have HO136 := n1_; have HO139 := n2_; have HO142 := n3_; have HO147 := n4_; have BK148 := n5_; have HB := n6_; clear n0_ n1_ n2_ n3_ n4_ n5_ n6_; (try clear hb); (try clear hb2); (try clear hk); (try clear hi); have hcz43_0 : w42.cell? ⟨gb148, 0, none⟩ = some (.slice Ao36 y134.length co36) := (blk_cell BK148.out 0).trans rfl; have hcz43_1 : w42.cell? ⟨gb148, 1, none⟩ = some (.slice Ao35 y137.length co35) := (blk_cell BK148.out 1).trans rfl; have hcz43_2 : w42.cell? ⟨gb148, 2, none⟩ = some (.slice Ao34 y140.length co34) := (blk_cell BK148.out 2).trans rfl; have hcz43_3 : w42.cell? ⟨gb148, 3, none⟩ = some (.slice Ao33 y143.length co33) := (blk_cell BK148.out 3).trans rfl; have hcz43_4 : w42.cell? ⟨gb148, 4, none⟩ = some (.slice none 0 0) := (blk_cell BK148.out 4).trans rfl; have hcz43_5 : w42.cell? ⟨gb148, 5, none⟩ = some (.slice none 0 0) := (blk_cell BK148.out 5).trans rfl; have hcz43_6 : w42.cell? ⟨gb148, 6, none⟩ = some (.slice none 0 0) := (blk_cell BK148.out 6).trans rfl; have hfz43_0 := blk_frozen BK148.out 0; have hfz43_1 := blk_frozen BK148.out 1; have hfz43_2 := blk_frozen BK148.out 2; have hfz43_3 := blk_frozen BK148.out 3; have hfz43_4 := blk_frozen BK148.out 4; have hfz43_5 := blk_frozen BK148.out 5; have hfz43_6 := blk_frozen BK148.out 6) | (go_at_call 12; refine calls_of_args (args' := #[.agg #[.slice Ao36 y134.length co36, .slice Ao35 y137.length co35, .slice Ao34 y140.length co34, .slice Ao33 y143.length co33, .slice none ([] : List (S55)).length 0, .slice none ([] : List Bool).length 0, .slice none ([] : List Bool).length 0], .int .i64 0]) (by rfl) ?_; (with_reducible refine (lookup_State.calls _ _ y134 _ _ y137 _ _ y140 _ _ y143 _ _ ([] : List (S55)) _ _ ([] : List Bool) _ _ ([] : List Bool) 0 t162 t163 t164 t165 _ ?side1 ?side2 ?side3 ?side4 ?side5 ?side6 ?side7 ?side8 ?side9 ?side10 ?side11 ?side12 ?side13 ?side14 A15.out).mono ?_); (case side1 => repeat (first | exact (Kd.R_reads' HO136.out).2.2 | (with_reducible refine Kd.C_alloc ?_ _) | (with_reducible refine Kd.C_drewN ?_ _) | (with_reducible refine Kd.C_drew ?_))); (case side2 => exact (Kd.R_reads' HO136.out).2.1); (case side3 => repeat (first | exact (Kd.R_reads' HO139.out).2.2 | (with_reducible refine Kd.C_alloc ?_ _) | (with_reducible refine Kd.C_drewN ?_ _) | (with_reducible refine Kd.C_drew ?_))); (case side4 => exact (Kd.R_reads' HO139.out).2.1); (case side5 => repeat (first | exact (Kd.R_reads' HO142.out).2.2 | (with_reducible refine Kd.C_alloc ?_ _) | (with_reducible refine Kd.C_drewN ?_ _) | (with_reducible refine Kd.C_drew ?_))); (case side6 => exact (Kd.R_reads' HO142.out).2.1); (case side7 => repeat (first | exact (Kd.V_reads' HO147.out).2.2 | (with_reducible refine Kd.C_alloc ?_ _) | (with_reducible refine Kd.C_drewN ?_ _) | (with_reducible refine Kd.C_drew ?_))); (case side8 => exact (Kd.V_reads' HO147.out).2.1); (case side9 => exact Kd.C_nil _ _); (case side10 => exact Nat.le_refl _); (case side11 => exact Kd.C_nil _ _); (case side12 => exact Nat.le_refl _); (case side13 => exact Kd.C_nil _ _); (case side14 => exact Nat.le_refl _); rintro e w44 ⟨rfl, hb⟩; have n0_ := Aside0.mk (Kd.R_below (by (with_reducible repeat (first | apply Kd.R_alloc | apply Kd.R_drewN | apply Kd.R_drew)); exact HO133.out) hb); have n1_ := Aside0.mk (Kd.R_below (by (with_reducible repeat (first | apply Kd.R_alloc | apply Kd.R_drewN | apply Kd.R_drew)); exact HO136.out) hb); have n2_ := Aside0.mk (Kd.R_below (by (with_reducible repeat (first | apply Kd.R_alloc | apply Kd.R_drewN | apply Kd.R_drew)); exact HO139.out) hb); have n3_ := Aside0.mk (Kd.R_below (by (with_reducible repeat (first | apply Kd.R_alloc | apply Kd.R_drewN | apply Kd.R_drew)); exact HO142.out) hb); have n4_ := Aside0.mk (Kd.V_below (by (with_reducible repeat (first | apply Kd.V_alloc | apply Kd.V_drewN | apply Kd.V_drew)); exact HO147.out) hb); have n5_ := Aside0.mk (blk_below (g := gb148) (o := .cells #[.slice Ao36 y134.length co36, .slice Ao35 y137.length co35, .slice Ao34 y140.length co34, .slice Ao33 y143.length co33, .slice none 0 0, .slice none 0 0, .slice none 0 0] 28 (0, 0)) (by (with_reducible repeat (first | refine blk_drewN ?_ _ | refine blk_drew ?_ | refine blk_alloc ?_ _)); exact BK148.out) hb); have n6_ := Aside0.mk (below_step (by repeat (first | (with_reducible first | exact HB.out | apply below_alloc | apply pw_below_drewN | apply below_drew1 | refine below_set ?_ GE148.out) | exact HB.out)) hb); clear HO133; clear HO136; clear HO139; clear HO142; clear HO147; clear BK148; clear HB; have HO133 := n0_; have HO136 := n1_; have HO139 := n2_; have HO142 := n3_; have HO147 := n4_; have BK148 := n5_; have HB := n6_; clear n0_ n1_ n2_ n3_ n4_ n5_ n6_; (try clear hb); (try clear hb2); (try clear hk); (try clear hi); have hcz45_0 : w44.cell? ⟨gb148, 0, none⟩ = some (.slice Ao36 y134.length co36) := (blk_cell BK148.out 0).trans rfl; have hcz45_1 : w44.cell? ⟨gb148, 1, none⟩ = some (.slice Ao35 y137.length co35) := (blk_cell BK148.out 1).trans rfl; have hcz45_2 : w44.cell? ⟨gb148, 2, none⟩ = some (.slice Ao34 y140.length co34) := (blk_cell BK148.out 2).trans rfl; have hcz45_3 : w44.cell? ⟨gb148, 3, none⟩ = some (.slice Ao33 y143.length co33) := (blk_cell BK148.out 3).trans rfl; have hcz45_4 : w44.cell? ⟨gb148, 4, none⟩ = some (.slice none 0 0) := (blk_cell BK148.out 4).trans rfl; have hcz45_5 : w44.cell? ⟨gb148, 5, none⟩ = some (.slice none 0 0) := (blk_cell BK148.out 5).trans rfl; have hcz45_6 : w44.cell? ⟨gb148, 6, none⟩ = some (.slice none 0 0) := (blk_cell BK148.out 6).trans rfl; have hfz45_0 := blk_frozen BK148.out 0; have hfz45_1 := blk_frozen BK148.out 1; have hfz45_2 := blk_frozen BK148.out 2; have hfz45_3 := blk_frozen BK148.out 3; have hfz45_4 := blk_frozen BK148.out 4; have hfz45_5 := blk_frozen BK148.out 5; have hfz45_6 := blk_frozen BK148.out 6) | (go_at_call 12; refine calls_of_args (args' := #[.agg #[.slice Ao36 y134.length co36, .slice Ao35 y137.length co35, .slice Ao34 y140.length co34, .slice Ao33 y143.length co33, .slice none ([] : List (S55)).length 0, .slice none ([] : List Bool).length 0, .slice none ([] : List Bool).length 0], .int .i64 1]) (by rfl) ?_; (with_reducible refine (lookup_State.calls _ _ y134 _ _ y137 _ _ y140 _ _ y143 _ _ ([] : List (S55)) _ _ ([] : List Bool) _ _ ([] : List Bool) 1 t166 t167 t168 t169 _ ?side1 ?side2 ?side3 ?side4 ?side5 ?side6 ?side7 ?side8 ?side9 ?side10 ?side11 ?side12 ?side13 ?side14 A17.out).mono ?_); (case side1 => repeat (first | exact (Kd.R_reads' HO136.out).2.2 | (with_reducible refine Kd.C_alloc ?_ _) | (with_reducible refine Kd.C_drewN ?_ _) | (with_reducible refine Kd.C_drew ?_))); (case side2 => exact (Kd.R_reads' HO136.out).2.1); (case side3 => repeat (first | exact (Kd.R_reads' HO139.out).2.2 | (with_reducible refine Kd.C_alloc ?_ _) | (with_reducible refine Kd.C_drewN ?_ _) | (with_reducible refine Kd.C_drew ?_))); (case side4 => exact (Kd.R_reads' HO139.out).2.1); (case side5 => repeat (first | exact (Kd.R_reads' HO142.out).2.2 | (with_reducible refine Kd.C_alloc ?_ _) | (with_reducible refine Kd.C_drewN ?_ _) | (with_reducible refine Kd.C_drew ?_))); (case side6 => exact (Kd.R_reads' HO142.out).2.1); (case side7 => repeat (first | exact (Kd.V_reads' HO147.out).2.2 | (with_reducible refine Kd.C_alloc ?_ _) | (with_reducible refine Kd.C_drewN ?_ _) | (with_reducible refine Kd.C_drew ?_))); (case side8 => exact (Kd.V_reads' HO147.out).2.1); (case side9 => exact Kd.C_nil _ _); (case side10 => exact Nat.le_refl _); (case side11 => exact Kd.C_nil _ _); (case side12 => exact Nat.le_refl _); (case side13 => exact Kd.C_nil _ _); (case side14 => exact Nat.le_refl _); rintro e w46 ⟨rfl, hb⟩; have n0_ := Aside0.mk (Kd.R_below (by (with_reducible repeat (first | apply Kd.R_alloc | apply Kd.R_drewN | apply Kd.R_drew)); exact HO133.out) hb); have n1_ := Aside0.mk (Kd.R_below (by (with_reducible repeat (first | apply Kd.R_alloc | apply Kd.R_drewN | apply Kd.R_drew)); exact HO136.out) hb); have n2_ := Aside0.mk (Kd.R_below (by (with_reducible repeat (first | apply Kd.R_alloc | apply Kd.R_drewN | apply Kd.R_drew)); exact HO139.out) hb); have n3_ := Aside0.mk (Kd.R_below (by (with_reducible repeat (first | apply Kd.R_alloc | apply Kd.R_drewN | apply Kd.R_drew)); exact HO142.out) hb); have n4_ := Aside0.mk (Kd.V_below (by (with_reducible repeat (first | apply Kd.V_alloc | apply Kd.V_drewN | apply Kd.V_drew)); exact HO147.out) hb); have n5_ := Aside0.mk (blk_below (g := gb148) (o := .cells #[.slice Ao36 y134.length co36, .slice Ao35 y137.length co35, .slice Ao34 y140.length co34, .slice Ao33 y143.length co33, .slice none 0 0, .slice none 0 0, .slice none 0 0] 28 (0, 0)) (by (with_reducible repeat (first | refine blk_drewN ?_ _ | refine blk_drew ?_ | refine blk_alloc ?_ _)); exact BK148.out) hb); have n6_ := Aside0.mk (below_step (by repeat (first | (with_reducible first | exact HB.out | apply below_alloc | apply pw_below_drewN | apply below_drew1 | refine below_set ?_ GE148.out) | exact HB.out)) hb); clear HO133; clear HO136; clear HO139; clear HO142; clear HO147; clear BK148; clear HB; have HO133 := n0_; have HO136 := n1_; have HO139 := n2_; have HO142 := n3_; have HO147 := n4_; have BK148 := n5_; have HB := n6_; clear n0_ n1_ n2_ n3_ n4_ n5_ n6_; (try clear hb); (try clear hb2); (try clear hk); (try clear hi); have hcz47_0 : w46.cell? ⟨gb148, 0, none⟩ = some (.slice Ao36 y134.length co36) := (blk_cell BK148.out 0).trans rfl; have hcz47_1 : w46.cell? ⟨gb148, 1, none⟩ = some (.slice Ao35 y137.length co35) := (blk_cell BK148.out 1).trans rfl; have hcz47_2 : w46.cell? ⟨gb148, 2, none⟩ = some (.slice Ao34 y140.length co34) := (blk_cell BK148.out 2).trans rfl; have hcz47_3 : w46.cell? ⟨gb148, 3, none⟩ = some (.slice Ao33 y143.length co33) := (blk_cell BK148.out 3).trans rfl; have hcz47_4 : w46.cell? ⟨gb148, 4, none⟩ = some (.slice none 0 0) := (blk_cell BK148.out 4).trans rfl; have hcz47_5 : w46.cell? ⟨gb148, 5, none⟩ = some (.slice none 0 0) := (blk_cell BK148.out 5).trans rfl; have hcz47_6 : w46.cell? ⟨gb148, 6, none⟩ = some (.slice none 0 0) := (blk_cell BK148.out 6).trans rfl; have hfz47_0 := blk_frozen BK148.out 0; have hfz47_1 := blk_frozen BK148.out 1; have hfz47_2 := blk_frozen BK148.out 2; have hfz47_3 := blk_frozen BK148.out 3; have hfz47_4 := blk_frozen BK148.out 4; have hfz47_5 := blk_frozen BK148.out 5; have hfz47_6 := blk_frozen BK148.out 6) | (go_at_call 16; refine calls_of_args (args' := #[.agg #[.slice Ao36 y134.length co36, .slice Ao35 y137.length co35, .slice Ao34 y140.length co34, .slice Ao33 y143.length co33, .slice none ([] : List (S55)).length 0, .slice none ([] : List Bool).length 0, .slice none ([] : List Bool).length 0], .int .i64 1, .int .i64 2]) (by rfl) ?_; (with_reducible refine (lookup_Same.calls _ _ y134 _ _ y137 _ _ y140 _ _ y143 _ _ ([] : List (S55)) _ _ ([] : List Bool) _ _ ([] : List Bool) 1 2 true _ ?side1 ?side2 ?side3 ?side4 ?side5 ?side6 ?side7 ?side8 ?side9 ?side10 ?side11 ?side12 ?side13 ?side14 A19.out).mono ?_); (case side1 => repeat (first | exact (Kd.R_reads' HO136.out).2.2 | (with_reducible refine Kd.C_alloc ?_ _) | (with_reducible refine Kd.C_drewN ?_ _) | (with_reducible refine Kd.C_drew ?_))); (case side2 => exact (Kd.R_reads' HO136.out).2.1); (case side3 => repeat (first | exact (Kd.R_reads' HO139.out).2.2 | (with_reducible refine Kd.C_alloc ?_ _) | (with_reducible refine Kd.C_drewN ?_ _) | (with_reducible refine Kd.C_drew ?_))); (case side4 => exact (Kd.R_reads' HO139.out).2.1); (case side5 => repeat (first | exact (Kd.R_reads' HO142.out).2.2 | (with_reducible refine Kd.C_alloc ?_ _) | (with_reducible refine Kd.C_drewN ?_ _) | (with_reducible refine Kd.C_drew ?_))); (case side6 => exact (Kd.R_reads' HO142.out).2.1); (case side7 => repeat (first | exact (Kd.V_reads' HO147.out).2.2 | (with_reducible refine Kd.C_alloc ?_ _) | (with_reducible refine Kd.C_drewN ?_ _) | (with_reducible refine Kd.C_drew ?_))); (case side8 => exact (Kd.V_reads' HO147.out).2.1); (case side9 => exact Kd.C_nil _ _); (case side10 => exact Nat.le_refl _); (case side11 => exact Kd.C_nil _ _); (case side12 => exact Nat.le_refl _); (case side13 => exact Kd.C_nil _ _); (case side14 => exact Nat.le_refl _); rintro e w48 ⟨rfl, hb⟩; have n0_ := Aside0.mk (Kd.R_below (by (with_reducible repeat (first | apply Kd.R_alloc | apply Kd.R_drewN | apply Kd.R_drew)); exact HO133.out) hb); have n1_ := Aside0.mk (Kd.R_below (by (with_reducible repeat (first | apply Kd.R_alloc | apply Kd.R_drewN | apply Kd.R_drew)); exact HO136.out) hb); have n2_ := Aside0.mk (Kd.R_below (by (with_reducible repeat (first | apply Kd.R_alloc | apply Kd.R_drewN | apply Kd.R_drew)); exact HO139.out) hb); have n3_ := Aside0.mk (Kd.R_below (by (with_reducible repeat (first | apply Kd.R_alloc | apply Kd.R_drewN | apply Kd.R_drew)); exact HO142.out) hb); have n4_ := Aside0.mk (Kd.V_below (by (with_reducible repeat (first | apply Kd.V_alloc | apply Kd.V_drewN | apply Kd.V_drew)); exact HO147.out) hb); have n5_ := Aside0.mk (blk_below (g := gb148) (o := .cells #[.slice Ao36 y134.length co36, .slice Ao35 y137.length co35, .slice Ao34 y140.length co34, .slice Ao33 y143.length co33, .slice none 0 0, .slice none 0 0, .slice none 0 0] 28 (0, 0)) (by (with_reducible repeat (first | refine blk_drewN ?_ _ | refine blk_drew ?_ | refine blk_alloc ?_ _)); exact BK148.out) hb); have n6_ := Aside0.mk (below_step (by repeat (first | (with_reducible first | exact HB.out | apply below_alloc | apply pw_below_drewN | apply below_drew1 | refine below_set ?_ GE148.out) | exact HB.out)) hb); clear HO133; clear HO136; clear HO139; clear HO142; clear HO147; clear BK148; clear HB; have HO133 := n0_; have HO136 := n1_; have HO139 := n2_; have HO142 := n3_; have HO147 := n4_; have BK148 := n5_; have HB := n6_; clear n0_ n1_ n2_ n3_ n4_ n5_ n6_; (try clear hb); (try clear hb2); (try clear hk); (try clear hi); have hcz49_0 : w48.cell? ⟨gb148, 0, none⟩ = some (.slice Ao36 y134.length co36) := (blk_cell BK148.out 0).trans rfl; have hcz49_1 : w48.cell? ⟨gb148, 1, none⟩ = some (.slice Ao35 y137.length co35) := (blk_cell BK148.out 1).trans rfl; have hcz49_2 : w48.cell? ⟨gb148, 2, none⟩ = some (.slice Ao34 y140.length co34) := (blk_cell BK148.out 2).trans rfl; have hcz49_3 : w48.cell? ⟨gb148, 3, none⟩ = some (.slice Ao33 y143.length co33) := (blk_cell BK148.out 3).trans rfl; have hcz49_4 : w48.cell? ⟨gb148, 4, none⟩ = some (.slice none 0 0) := (blk_cell BK148.out 4).trans rfl; have hcz49_5 : w48.cell? ⟨gb148, 5, none⟩ = some (.slice none 0 0) := (blk_cell BK148.out 5).trans rfl; have hcz49_6 : w48.cell? ⟨gb148, 6, none⟩ = some (.slice none 0 0) := (blk_cell BK148.out 6).trans rfl; have hfz49_0 := blk_frozen BK148.out 0; have hfz49_1 := blk_frozen BK148.out 1; have hfz49_2 := blk_frozen BK148.out 2; have hfz49_3 := blk_frozen BK148.out 3; have hfz49_4 := blk_frozen BK148.out 4; have hfz49_5 := blk_frozen BK148.out 5; have hfz49_6 := blk_frozen BK148.out 6) | (go_at_call 16; refine calls_of_args (args' := #[.agg #[.slice Ao36 y134.length co36, .slice Ao35 y137.length co35, .slice Ao34 y140.length co34, .slice Ao33 y143.length co33, .slice none ([] : List (S55)).length 0, .slice none ([] : List Bool).length 0, .slice none ([] : List Bool).length 0], .int .i64 0, .int .i64 1]) (by rfl) ?_; (with_reducible refine (lookup_Same.calls _ _ y134 _ _ y137 _ _ y140 _ _ y143 _ _ ([] : List (S55)) _ _ ([] : List Bool) _ _ ([] : List Bool) 0 1 t171 _ ?side1 ?side2 ?side3 ?side4 ?side5 ?side6 ?side7 ?side8 ?side9 ?side10 ?side11 ?side12 ?side13 ?side14 A21.out).mono ?_); (case side1 => repeat (first | exact (Kd.R_reads' HO136.out).2.2 | (with_reducible refine Kd.C_alloc ?_ _) | (with_reducible refine Kd.C_drewN ?_ _) | (with_reducible refine Kd.C_drew ?_))); (case side2 => exact (Kd.R_reads' HO136.out).2.1); (case side3 => repeat (first | exact (Kd.R_reads' HO139.out).2.2 | (with_reducible refine Kd.C_alloc ?_ _) | (with_reducible refine Kd.C_drewN ?_ _) | (with_reducible refine Kd.C_drew ?_))); (case side4 => exact (Kd.R_reads' HO139.out).2.1); (case side5 => repeat (first | exact (Kd.R_reads' HO142.out).2.2 | (with_reducible refine Kd.C_alloc ?_ _) | (with_reducible refine Kd.C_drewN ?_ _) | (with_reducible refine Kd.C_drew ?_))); (case side6 => exact (Kd.R_reads' HO142.out).2.1); (case side7 => repeat (first | exact (Kd.V_reads' HO147.out).2.2 | (with_reducible refine Kd.C_alloc ?_ _) | (with_reducible refine Kd.C_drewN ?_ _) | (with_reducible refine Kd.C_drew ?_))); (case side8 => exact (Kd.V_reads' HO147.out).2.1); (case side9 => exact Kd.C_nil _ _); (case side10 => exact Nat.le_refl _); (case side11 => exact Kd.C_nil _ _); (case side12 => exact Nat.le_refl _); (case side13 => exact Kd.C_nil _ _); (case side14 => exact Nat.le_refl _); rintro e w50 ⟨rfl, hb⟩; have n0_ := Aside0.mk (Kd.R_below (by (with_reducible repeat (first | apply Kd.R_alloc | apply Kd.R_drewN | apply Kd.R_drew)); exact HO133.out) hb); have n1_ := Aside0.mk (Kd.R_below (by (with_reducible repeat (first | apply Kd.R_alloc | apply Kd.R_drewN | apply Kd.R_drew)); exact HO136.out) hb); have n2_ := Aside0.mk (Kd.R_below (by (with_reducible repeat (first | apply Kd.R_alloc | apply Kd.R_drewN | apply Kd.R_drew)); exact HO139.out) hb); have n3_ := Aside0.mk (Kd.R_below (by (with_reducible repeat (first | apply Kd.R_alloc | apply Kd.R_drewN | apply Kd.R_drew)); exact HO142.out) hb); have n4_ := Aside0.mk (Kd.V_below (by (with_reducible repeat (first | apply Kd.V_alloc | apply Kd.V_drewN | apply Kd.V_drew)); exact HO147.out) hb); have n5_ := Aside0.mk (blk_below (g := gb148) (o := .cells #[.slice Ao36 y134.length co36, .slice Ao35 y137.length co35, .slice Ao34 y140.length co34, .slice Ao33 y143.length co33, .slice none 0 0, .slice none 0 0, .slice none 0 0] 28 (0, 0)) (by (with_reducible repeat (first | refine blk_drewN ?_ _ | refine blk_drew ?_ | refine blk_alloc ?_ _)); exact BK148.out) hb); have n6_ := Aside0.mk (below_step (by repeat (first | (with_reducible first | exact HB.out | apply below_alloc | apply pw_below_drewN | apply below_drew1 | refine below_set ?_ GE148.out) | exact HB.out)) hb); clear HO133; clear HO136; clear HO139; clear HO142; clear HO147; clear BK148; clear HB; have HO133 := n0_; have HO136 := n1_; have HO139 := n2_; have HO142 := n3_; have HO147 := n4_; have BK148 := n5_; have HB := n6_; clear n0_ n1_ n2_ n3_ n4_ n5_ n6_; (try clear hb); (try clear hb2); (try clear hk); (try clear hi)))
                      go_ret
                      exact ⟨by first | rfl | (simp [errW_none, errW_some] <;> rfl) | (simp [*, errW_none, errW_some] <;> rfl), by repeat (first | (with_reducible first | exact HB.out | apply below_alloc | apply pw_below_drewN | apply below_drew1 | refine below_set ?_ GE148.out) | exact HB.out)⟩
                    · replace c20 := Bool.eq_false_iff.mpr c20
                      subst c20
                      have H1 : (none) = some r := by rw [if_neg (show ¬ (false = true) by decide)] at H; exact H
                      clear H
                      have H := H1
                      clear H1
                      exact absurd H (by simp)
                  · rw [if_neg c18] at H
                    exact absurd H (by simp)
                · rw [if_neg c16] at H
                  exact absurd H (by simp)
              · rw [if_neg c14] at H
                exact absurd H (by simp)
            · rw [if_neg c12] at H
              exact absurd H (by simp)
          · rw [if_neg c10] at H
            exact absurd H (by simp)
        · rw [if_neg c8] at H
          exact absurd H (by simp)
      · rw [if_neg c6] at H
        exact absurd H (by simp)
    · rw [if_neg c4] at H
      exact absurd H (by simp)
  · rw [if_neg c2] at H
    exact absurd H (by simp)

/-! ### zoneinforef19_Few: function 21 -/
def zoneinforef19_Few.f (l0_0 : List Int) (l0_1 : List Int) (l0_2 : List (S42)) (l0_3 : List Int) (l0_4 : List (S55)) (l0_5 : List Bool) (l0_6 : List Bool) : Option (Bool) := if (l0_0.length : Int) ≤ 200 then (if (l0_1.length : Int) ≤ 200 then (if (l0_2.length : Int) ≤ 200 then (if (l0_3.length : Int) ≤ 600 then (if (l0_4.length : Int) ≤ 200 then (if (l0_5.length : Int) ≤ 200 then (some (decide ((l0_6.length : Int) ≤ 200))) else (some false)) else (some false)) else (some false)) else (some false)) else (some false)) else (some false)
set_option maxHeartbeats 8000000 in
set_option maxRecDepth 100000 in
theorem zoneinforef19_Few.calls (A0_0 : Option Addr) (c0_0 : Nat) (l0_0 : List Int) (A0_1 : Option Addr) (c0_1 : Nat) (l0_1 : List Int) (A0_2 : Option Addr) (c0_2 : Nat) (l0_2 : List (S42)) (A0_3 : Option Addr) (c0_3 : Nat) (l0_3 : List Int) (A0_4 : Option Addr) (c0_4 : Nat) (l0_4 : List (S55)) (A0_5 : Option Addr) (c0_5 : Nat) (l0_5 : List Bool) (A0_6 : Option Addr) (c0_6 : Nat) (l0_6 : List Bool) (r : Bool) (w : World) (hr0_0 : Kd.C (Kd.int .i64) w A0_0 l0_0.length l0_0) (hc0_0 : l0_0.length ≤ c0_0) (hr0_1 : Kd.C (Kd.int .u8) w A0_1 l0_1.length l0_1) (hc0_1 : l0_1.length ≤ c0_1) (hr0_2 : Kd.C k42 w A0_2 l0_2.length l0_2) (hc0_2 : l0_2.length ≤ c0_2) (hr0_3 : Kd.C (Kd.int .u8) w A0_3 l0_3.length l0_3) (hc0_3 : l0_3.length ≤ c0_3) (hr0_4 : Kd.C k55 w A0_4 l0_4.length l0_4) (hc0_4 : l0_4.length ≤ c0_4) (hr0_5 : Kd.C Kd.bool w A0_5 l0_5.length l0_5) (hc0_5 : l0_5.length ≤ c0_5) (hr0_6 : Kd.C Kd.bool w A0_6 l0_6.length l0_6) (hc0_6 : l0_6.length ≤ c0_6) (h : zoneinforef19_Few.f l0_0 l0_1 l0_2 l0_3 l0_4 l0_5 l0_6 = some r) :
    Calls Try.prog 21 #[.agg #[.slice A0_0 l0_0.length c0_0, .slice A0_1 l0_1.length c0_1, .slice A0_2 l0_2.length c0_2, .slice A0_3 l0_3.length c0_3, .slice A0_4 l0_4.length c0_4, .slice A0_5 l0_5.length c0_5, .slice A0_6 l0_6.length c0_6]] w fun e w' => e = .returned (.bool r) ∧ Below w.heap.size w w' := by
  have hu28 := Try.underlying28
  have HR0_0 := Aside0.mk hr0_0
  have HC0_0 := Aside0.mk hc0_0
  clear hr0_0 hc0_0
  have HR0_1 := Aside0.mk hr0_1
  have HC0_1 := Aside0.mk hc0_1
  clear hr0_1 hc0_1
  have HR0_2 := Aside0.mk hr0_2
  have HC0_2 := Aside0.mk hc0_2
  clear hr0_2 hc0_2
  have HR0_3 := Aside0.mk hr0_3
  have HC0_3 := Aside0.mk hc0_3
  clear hr0_3 hc0_3
  have HR0_4 := Aside0.mk hr0_4
  have HC0_4 := Aside0.mk hc0_4
  clear hr0_4 hc0_4
  have HR0_5 := Aside0.mk hr0_5
  have HC0_5 := Aside0.mk hc0_5
  clear hr0_5 hc0_5
  have HR0_6 := Aside0.mk hr0_6
  have HC0_6 := Aside0.mk hc0_6
  clear hr0_6 hc0_6
  have HB := Aside0.mk (Below.refl w.heap.size w)
  have H : (if (l0_0.length : Int) ≤ 200 then (if (l0_1.length : Int) ≤ 200 then (if (l0_2.length : Int) ≤ 200 then (if (l0_3.length : Int) ≤ 600 then (if (l0_4.length : Int) ≤ 200 then (if (l0_5.length : Int) ≤ 200 then (some (decide ((l0_6.length : Int) ≤ 200))) else (some false)) else (some false)) else (some false)) else (some false)) else (some false)) else (some false)) = some r := h
  clear h
  by_cases c2 : (l0_0.length : Int) ≤ 200
  · rw [if_pos c2] at H
    have c2b0 : decide ((l0_0.length : Int) ≤ 200) = true := decide_eq_true c2
    have c2b1 : decide (l0_0.length ≤ 200) = true := decide_eq_true (by omega)
    clear c2
    by_cases c3 : (l0_1.length : Int) ≤ 200
    · rw [if_pos c3] at H
      have c3b0 : decide ((l0_1.length : Int) ≤ 200) = true := decide_eq_true c3
      have c3b1 : decide (l0_1.length ≤ 200) = true := decide_eq_true (by omega)
      clear c3
      by_cases c4 : (l0_2.length : Int) ≤ 200
      · rw [if_pos c4] at H
        have c4b0 : decide ((l0_2.length : Int) ≤ 200) = true := decide_eq_true c4
        have c4b1 : decide (l0_2.length ≤ 200) = true := decide_eq_true (by omega)
        clear c4
        by_cases c5 : (l0_3.length : Int) ≤ 600
        · rw [if_pos c5] at H
          have c5b0 : decide ((l0_3.length : Int) ≤ 600) = true := decide_eq_true c5
          have c5b1 : decide (l0_3.length ≤ 600) = true := decide_eq_true (by omega)
          clear c5
          by_cases c6 : (l0_4.length : Int) ≤ 200
          · rw [if_pos c6] at H
            have c6b0 : decide ((l0_4.length : Int) ≤ 200) = true := decide_eq_true c6
            have c6b1 : decide (l0_4.length ≤ 200) = true := decide_eq_true (by omega)
            clear c6
            by_cases c7 : (l0_5.length : Int) ≤ 200
            · rw [if_pos c7] at H
              have c7b0 : decide ((l0_5.length : Int) ≤ 200) = true := decide_eq_true c7
              have c7b1 : decide (l0_5.length ≤ 200) = true := decide_eq_true (by omega)
              clear c7
              obtain rfl := Option.some.inj H
              go_enter Try.func21, Try.ntmps21
              go_wp2_with (first | ((with_reducible refine gate_dst (N := 1) rfl ?_); (try (refine gate_guard (by rfl) ?_; dsimp only)); refine box_event ?hg (N := 1) ?hd (cs := #[.slice A0_0 l0_0.length c0_0, .slice A0_1 l0_1.length c0_1, .slice A0_2 l0_2.length c0_2, .slice A0_3 l0_3.length c0_3, .slice A0_4 l0_4.length c0_4, .slice A0_5 l0_5.length c0_5, .slice A0_6 l0_6.length c0_6]) (t := 28) ?hr ?_; (case hd => rfl); (case hg => rfl); (case hr => first | (go_simp; done) | (go_simp; rfl)); intro gb172 hg w8 hbox hb; have n0_ := Aside0.mk (below_step (by repeat (first | (with_reducible first | exact HB.out | apply below_alloc | apply pw_below_drewN | apply below_drew1) | exact HB.out)) hb); have n1_ := Aside0.mk (hbox); have n2_ := Aside0.mk ((by rw [hg]; exact (below_size (by repeat (first | (with_reducible first | exact HB.out | apply below_alloc | apply pw_below_drewN | apply below_drew1) | exact HB.out))) : w.heap.size ≤ gb172)); have n3_ := Aside0.mk ((by rw [hg]; exact (below_size (by repeat (first | (with_reducible first | exact HB.out | apply below_alloc | apply pw_below_drewN | apply below_drew1) | exact HB.out))) : w.heap.size ≤ gb172)); clear HB; have HB := n0_; have BK172 := n1_; have GW172 := n2_; have GE172 := n3_; clear n0_ n1_ n2_ n3_; clear hb hbox hg; have hcz9_0 : w8.cell? ⟨gb172, 0, none⟩ = some (.slice A0_0 l0_0.length c0_0) := (blk_cell BK172.out 0).trans rfl; have hcz9_1 : w8.cell? ⟨gb172, 1, none⟩ = some (.slice A0_1 l0_1.length c0_1) := (blk_cell BK172.out 1).trans rfl; have hcz9_2 : w8.cell? ⟨gb172, 2, none⟩ = some (.slice A0_2 l0_2.length c0_2) := (blk_cell BK172.out 2).trans rfl; have hcz9_3 : w8.cell? ⟨gb172, 3, none⟩ = some (.slice A0_3 l0_3.length c0_3) := (blk_cell BK172.out 3).trans rfl; have hcz9_4 : w8.cell? ⟨gb172, 4, none⟩ = some (.slice A0_4 l0_4.length c0_4) := (blk_cell BK172.out 4).trans rfl; have hcz9_5 : w8.cell? ⟨gb172, 5, none⟩ = some (.slice A0_5 l0_5.length c0_5) := (blk_cell BK172.out 5).trans rfl; have hcz9_6 : w8.cell? ⟨gb172, 6, none⟩ = some (.slice A0_6 l0_6.length c0_6) := (blk_cell BK172.out 6).trans rfl; have hfz9_0 := blk_frozen BK172.out 0; have hfz9_1 := blk_frozen BK172.out 1; have hfz9_2 := blk_frozen BK172.out 2; have hfz9_3 := blk_frozen BK172.out 3; have hfz9_4 := blk_frozen BK172.out 4; have hfz9_5 := blk_frozen BK172.out 5; have hfz9_6 := blk_frozen BK172.out 6))
              go_ret
              exact ⟨by first | rfl | (simp [errW_none, errW_some] <;> rfl) | (simp [*, errW_none, errW_some] <;> rfl), by repeat (first | (with_reducible first | exact HB.out | apply below_alloc | apply pw_below_drewN | apply below_drew1 | refine below_set ?_ GE172.out) | exact HB.out)⟩
            · rw [if_neg c7] at H
              have c7b0 : decide ((l0_5.length : Int) ≤ 200) = false := decide_eq_false c7
              have c7b1 : decide (l0_5.length ≤ 200) = false := decide_eq_false (by omega)
              clear c7
              obtain rfl := Option.some.inj H
              go_enter Try.func21, Try.ntmps21
              go_wp2_with (first | ((with_reducible refine gate_dst (N := 1) rfl ?_); (try (refine gate_guard (by rfl) ?_; dsimp only)); refine box_event ?hg (N := 1) ?hd (cs := #[.slice A0_0 l0_0.length c0_0, .slice A0_1 l0_1.length c0_1, .slice A0_2 l0_2.length c0_2, .slice A0_3 l0_3.length c0_3, .slice A0_4 l0_4.length c0_4, .slice A0_5 l0_5.length c0_5, .slice A0_6 l0_6.length c0_6]) (t := 28) ?hr ?_; (case hd => rfl); (case hg => rfl); (case hr => first | (go_simp; done) | (go_simp; rfl)); intro gb172 hg w10 hbox hb; have n0_ := Aside0.mk (below_step (by repeat (first | (with_reducible first | exact HB.out | apply below_alloc | apply pw_below_drewN | apply below_drew1) | exact HB.out)) hb); have n1_ := Aside0.mk (hbox); have n2_ := Aside0.mk ((by rw [hg]; exact (below_size (by repeat (first | (with_reducible first | exact HB.out | apply below_alloc | apply pw_below_drewN | apply below_drew1) | exact HB.out))) : w.heap.size ≤ gb172)); have n3_ := Aside0.mk ((by rw [hg]; exact (below_size (by repeat (first | (with_reducible first | exact HB.out | apply below_alloc | apply pw_below_drewN | apply below_drew1) | exact HB.out))) : w.heap.size ≤ gb172)); clear HB; have HB := n0_; have BK172 := n1_; have GW172 := n2_; have GE172 := n3_; clear n0_ n1_ n2_ n3_; clear hb hbox hg; have hcz11_0 : w10.cell? ⟨gb172, 0, none⟩ = some (.slice A0_0 l0_0.length c0_0) := (blk_cell BK172.out 0).trans rfl; have hcz11_1 : w10.cell? ⟨gb172, 1, none⟩ = some (.slice A0_1 l0_1.length c0_1) := (blk_cell BK172.out 1).trans rfl; have hcz11_2 : w10.cell? ⟨gb172, 2, none⟩ = some (.slice A0_2 l0_2.length c0_2) := (blk_cell BK172.out 2).trans rfl; have hcz11_3 : w10.cell? ⟨gb172, 3, none⟩ = some (.slice A0_3 l0_3.length c0_3) := (blk_cell BK172.out 3).trans rfl; have hcz11_4 : w10.cell? ⟨gb172, 4, none⟩ = some (.slice A0_4 l0_4.length c0_4) := (blk_cell BK172.out 4).trans rfl; have hcz11_5 : w10.cell? ⟨gb172, 5, none⟩ = some (.slice A0_5 l0_5.length c0_5) := (blk_cell BK172.out 5).trans rfl; have hcz11_6 : w10.cell? ⟨gb172, 6, none⟩ = some (.slice A0_6 l0_6.length c0_6) := (blk_cell BK172.out 6).trans rfl; have hfz11_0 := blk_frozen BK172.out 0; have hfz11_1 := blk_frozen BK172.out 1; have hfz11_2 := blk_frozen BK172.out 2; have hfz11_3 := blk_frozen BK172.out 3; have hfz11_4 := blk_frozen BK172.out 4; have hfz11_5 := blk_frozen BK172.out 5; have hfz11_6 := blk_frozen BK172.out 6))
              go_ret
              exact ⟨by first | rfl | (simp [errW_none, errW_some] <;> rfl) | (simp [*, errW_none, errW_some] <;> rfl), by repeat (first | (with_reducible first | exact HB.out | apply below_alloc | apply pw_below_drewN | apply below_drew1 | refine below_set ?_ GE172.out) | exact HB.out)⟩
          · rw [if_neg c6] at H
            have c6b0 : decide ((l0_4.length : Int) ≤ 200) = false := decide_eq_false c6
            have c6b1 : decide (l0_4.length ≤ 200) = false := decide_eq_false (by omega)
            clear c6
            obtain rfl := Option.some.inj H
            go_enter Try.func21, Try.ntmps21
            go_wp2_with (first | ((with_reducible refine gate_dst (N := 1) rfl ?_); (try (refine gate_guard (by rfl) ?_; dsimp only)); refine box_event ?hg (N := 1) ?hd (cs := #[.slice A0_0 l0_0.length c0_0, .slice A0_1 l0_1.length c0_1, .slice A0_2 l0_2.length c0_2, .slice A0_3 l0_3.length c0_3, .slice A0_4 l0_4.length c0_4, .slice A0_5 l0_5.length c0_5, .slice A0_6 l0_6.length c0_6]) (t := 28) ?hr ?_; (case hd => rfl); (case hg => rfl); (case hr => first | (go_simp; done) | (go_simp; rfl)); intro gb172 hg w12 hbox hb; have n0_ := Aside0.mk (below_step (by repeat (first | (with_reducible first | exact HB.out | apply below_alloc | apply pw_below_drewN | apply below_drew1) | exact HB.out)) hb); have n1_ := Aside0.mk (hbox); have n2_ := Aside0.mk ((by rw [hg]; exact (below_size (by repeat (first | (with_reducible first | exact HB.out | apply below_alloc | apply pw_below_drewN | apply below_drew1) | exact HB.out))) : w.heap.size ≤ gb172)); have n3_ := Aside0.mk ((by rw [hg]; exact (below_size (by repeat (first | (with_reducible first | exact HB.out | apply below_alloc | apply pw_below_drewN | apply below_drew1) | exact HB.out))) : w.heap.size ≤ gb172)); clear HB; have HB := n0_; have BK172 := n1_; have GW172 := n2_; have GE172 := n3_; clear n0_ n1_ n2_ n3_; clear hb hbox hg; have hcz13_0 : w12.cell? ⟨gb172, 0, none⟩ = some (.slice A0_0 l0_0.length c0_0) := (blk_cell BK172.out 0).trans rfl; have hcz13_1 : w12.cell? ⟨gb172, 1, none⟩ = some (.slice A0_1 l0_1.length c0_1) := (blk_cell BK172.out 1).trans rfl; have hcz13_2 : w12.cell? ⟨gb172, 2, none⟩ = some (.slice A0_2 l0_2.length c0_2) := (blk_cell BK172.out 2).trans rfl; have hcz13_3 : w12.cell? ⟨gb172, 3, none⟩ = some (.slice A0_3 l0_3.length c0_3) := (blk_cell BK172.out 3).trans rfl; have hcz13_4 : w12.cell? ⟨gb172, 4, none⟩ = some (.slice A0_4 l0_4.length c0_4) := (blk_cell BK172.out 4).trans rfl; have hcz13_5 : w12.cell? ⟨gb172, 5, none⟩ = some (.slice A0_5 l0_5.length c0_5) := (blk_cell BK172.out 5).trans rfl; have hcz13_6 : w12.cell? ⟨gb172, 6, none⟩ = some (.slice A0_6 l0_6.length c0_6) := (blk_cell BK172.out 6).trans rfl; have hfz13_0 := blk_frozen BK172.out 0; have hfz13_1 := blk_frozen BK172.out 1; have hfz13_2 := blk_frozen BK172.out 2; have hfz13_3 := blk_frozen BK172.out 3; have hfz13_4 := blk_frozen BK172.out 4; have hfz13_5 := blk_frozen BK172.out 5; have hfz13_6 := blk_frozen BK172.out 6))
            go_ret
            exact ⟨by first | rfl | (simp [errW_none, errW_some] <;> rfl) | (simp [*, errW_none, errW_some] <;> rfl), by repeat (first | (with_reducible first | exact HB.out | apply below_alloc | apply pw_below_drewN | apply below_drew1 | refine below_set ?_ GE172.out) | exact HB.out)⟩
        · rw [if_neg c5] at H
          have c5b0 : decide ((l0_3.length : Int) ≤ 600) = false := decide_eq_false c5
          have c5b1 : decide (l0_3.length ≤ 600) = false := decide_eq_false (by omega)
          clear c5
          obtain rfl := Option.some.inj H
          go_enter Try.func21, Try.ntmps21
          go_wp2_with (first | ((with_reducible refine gate_dst (N := 1) rfl ?_); (try (refine gate_guard (by rfl) ?_; dsimp only)); refine box_event ?hg (N := 1) ?hd (cs := #[.slice A0_0 l0_0.length c0_0, .slice A0_1 l0_1.length c0_1, .slice A0_2 l0_2.length c0_2, .slice A0_3 l0_3.length c0_3, .slice A0_4 l0_4.length c0_4, .slice A0_5 l0_5.length c0_5, .slice A0_6 l0_6.length c0_6]) (t := 28) ?hr ?_; (case hd => rfl); (case hg => rfl); (case hr => first | (go_simp; done) | (go_simp; rfl)); intro gb172 hg w14 hbox hb; have n0_ := Aside0.mk (below_step (by repeat (first | (with_reducible first | exact HB.out | apply below_alloc | apply pw_below_drewN | apply below_drew1) | exact HB.out)) hb); have n1_ := Aside0.mk (hbox); have n2_ := Aside0.mk ((by rw [hg]; exact (below_size (by repeat (first | (with_reducible first | exact HB.out | apply below_alloc | apply pw_below_drewN | apply below_drew1) | exact HB.out))) : w.heap.size ≤ gb172)); have n3_ := Aside0.mk ((by rw [hg]; exact (below_size (by repeat (first | (with_reducible first | exact HB.out | apply below_alloc | apply pw_below_drewN | apply below_drew1) | exact HB.out))) : w.heap.size ≤ gb172)); clear HB; have HB := n0_; have BK172 := n1_; have GW172 := n2_; have GE172 := n3_; clear n0_ n1_ n2_ n3_; clear hb hbox hg; have hcz15_0 : w14.cell? ⟨gb172, 0, none⟩ = some (.slice A0_0 l0_0.length c0_0) := (blk_cell BK172.out 0).trans rfl; have hcz15_1 : w14.cell? ⟨gb172, 1, none⟩ = some (.slice A0_1 l0_1.length c0_1) := (blk_cell BK172.out 1).trans rfl; have hcz15_2 : w14.cell? ⟨gb172, 2, none⟩ = some (.slice A0_2 l0_2.length c0_2) := (blk_cell BK172.out 2).trans rfl; have hcz15_3 : w14.cell? ⟨gb172, 3, none⟩ = some (.slice A0_3 l0_3.length c0_3) := (blk_cell BK172.out 3).trans rfl; have hcz15_4 : w14.cell? ⟨gb172, 4, none⟩ = some (.slice A0_4 l0_4.length c0_4) := (blk_cell BK172.out 4).trans rfl; have hcz15_5 : w14.cell? ⟨gb172, 5, none⟩ = some (.slice A0_5 l0_5.length c0_5) := (blk_cell BK172.out 5).trans rfl; have hcz15_6 : w14.cell? ⟨gb172, 6, none⟩ = some (.slice A0_6 l0_6.length c0_6) := (blk_cell BK172.out 6).trans rfl; have hfz15_0 := blk_frozen BK172.out 0; have hfz15_1 := blk_frozen BK172.out 1; have hfz15_2 := blk_frozen BK172.out 2; have hfz15_3 := blk_frozen BK172.out 3; have hfz15_4 := blk_frozen BK172.out 4; have hfz15_5 := blk_frozen BK172.out 5; have hfz15_6 := blk_frozen BK172.out 6))
          go_ret
          exact ⟨by first | rfl | (simp [errW_none, errW_some] <;> rfl) | (simp [*, errW_none, errW_some] <;> rfl), by repeat (first | (with_reducible first | exact HB.out | apply below_alloc | apply pw_below_drewN | apply below_drew1 | refine below_set ?_ GE172.out) | exact HB.out)⟩
      · rw [if_neg c4] at H
        have c4b0 : decide ((l0_2.length : Int) ≤ 200) = false := decide_eq_false c4
        have c4b1 : decide (l0_2.length ≤ 200) = false := decide_eq_false (by omega)
        clear c4
        obtain rfl := Option.some.inj H
        go_enter Try.func21, Try.ntmps21
        go_wp2_with (first | ((with_reducible refine gate_dst (N := 1) rfl ?_); (try (refine gate_guard (by rfl) ?_; dsimp only)); refine box_event ?hg (N := 1) ?hd (cs := #[.slice A0_0 l0_0.length c0_0, .slice A0_1 l0_1.length c0_1, .slice A0_2 l0_2.length c0_2, .slice A0_3 l0_3.length c0_3, .slice A0_4 l0_4.length c0_4, .slice A0_5 l0_5.length c0_5, .slice A0_6 l0_6.length c0_6]) (t := 28) ?hr ?_; (case hd => rfl); (case hg => rfl); (case hr => first | (go_simp; done) | (go_simp; rfl)); intro gb172 hg w16 hbox hb; have n0_ := Aside0.mk (below_step (by repeat (first | (with_reducible first | exact HB.out | apply below_alloc | apply pw_below_drewN | apply below_drew1) | exact HB.out)) hb); have n1_ := Aside0.mk (hbox); have n2_ := Aside0.mk ((by rw [hg]; exact (below_size (by repeat (first | (with_reducible first | exact HB.out | apply below_alloc | apply pw_below_drewN | apply below_drew1) | exact HB.out))) : w.heap.size ≤ gb172)); have n3_ := Aside0.mk ((by rw [hg]; exact (below_size (by repeat (first | (with_reducible first | exact HB.out | apply below_alloc | apply pw_below_drewN | apply below_drew1) | exact HB.out))) : w.heap.size ≤ gb172)); clear HB; have HB := n0_; have BK172 := n1_; have GW172 := n2_; have GE172 := n3_; clear n0_ n1_ n2_ n3_; clear hb hbox hg; have hcz17_0 : w16.cell? ⟨gb172, 0, none⟩ = some (.slice A0_0 l0_0.length c0_0) := (blk_cell BK172.out 0).trans rfl; have hcz17_1 : w16.cell? ⟨gb172, 1, none⟩ = some (.slice A0_1 l0_1.length c0_1) := (blk_cell BK172.out 1).trans rfl; have hcz17_2 : w16.cell? ⟨gb172, 2, none⟩ = some (.slice A0_2 l0_2.length c0_2) := (blk_cell BK172.out 2).trans rfl; have hcz17_3 : w16.cell? ⟨gb172, 3, none⟩ = some (.slice A0_3 l0_3.length c0_3) := (blk_cell BK172.out 3).trans rfl; have hcz17_4 : w16.cell? ⟨gb172, 4, none⟩ = some (.slice A0_4 l0_4.length c0_4) := (blk_cell BK172.out 4).trans rfl; have hcz17_5 : w16.cell? ⟨gb172, 5, none⟩ = some (.slice A0_5 l0_5.length c0_5) := (blk_cell BK172.out 5).trans rfl; have hcz17_6 : w16.cell? ⟨gb172, 6, none⟩ = some (.slice A0_6 l0_6.length c0_6) := (blk_cell BK172.out 6).trans rfl; have hfz17_0 := blk_frozen BK172.out 0; have hfz17_1 := blk_frozen BK172.out 1; have hfz17_2 := blk_frozen BK172.out 2; have hfz17_3 := blk_frozen BK172.out 3; have hfz17_4 := blk_frozen BK172.out 4; have hfz17_5 := blk_frozen BK172.out 5; have hfz17_6 := blk_frozen BK172.out 6))
        go_ret
        exact ⟨by first | rfl | (simp [errW_none, errW_some] <;> rfl) | (simp [*, errW_none, errW_some] <;> rfl), by repeat (first | (with_reducible first | exact HB.out | apply below_alloc | apply pw_below_drewN | apply below_drew1 | refine below_set ?_ GE172.out) | exact HB.out)⟩
    · rw [if_neg c3] at H
      have c3b0 : decide ((l0_1.length : Int) ≤ 200) = false := decide_eq_false c3
      have c3b1 : decide (l0_1.length ≤ 200) = false := decide_eq_false (by omega)
      clear c3
      obtain rfl := Option.some.inj H
      go_enter Try.func21, Try.ntmps21
      go_wp2_with (first | ((with_reducible refine gate_dst (N := 1) rfl ?_); (try (refine gate_guard (by rfl) ?_; dsimp only)); refine box_event ?hg (N := 1) ?hd (cs := #[.slice A0_0 l0_0.length c0_0, .slice A0_1 l0_1.length c0_1, .slice A0_2 l0_2.length c0_2, .slice A0_3 l0_3.length c0_3, .slice A0_4 l0_4.length c0_4, .slice A0_5 l0_5.length c0_5, .slice A0_6 l0_6.length c0_6]) (t := 28) ?hr ?_; (case hd => rfl); (case hg => rfl); (case hr => first | (go_simp; done) | (go_simp; rfl)); intro gb172 hg w18 hbox hb; have n0_ := Aside0.mk (below_step (by repeat (first | (with_reducible first | exact HB.out | apply below_alloc | apply pw_below_drewN | apply below_drew1) | exact HB.out)) hb); have n1_ := Aside0.mk (hbox); have n2_ := Aside0.mk ((by rw [hg]; exact (below_size (by repeat (first | (with_reducible first | exact HB.out | apply below_alloc | apply pw_below_drewN | apply below_drew1) | exact HB.out))) : w.heap.size ≤ gb172)); have n3_ := Aside0.mk ((by rw [hg]; exact (below_size (by repeat (first | (with_reducible first | exact HB.out | apply below_alloc | apply pw_below_drewN | apply below_drew1) | exact HB.out))) : w.heap.size ≤ gb172)); clear HB; have HB := n0_; have BK172 := n1_; have GW172 := n2_; have GE172 := n3_; clear n0_ n1_ n2_ n3_; clear hb hbox hg; have hcz19_0 : w18.cell? ⟨gb172, 0, none⟩ = some (.slice A0_0 l0_0.length c0_0) := (blk_cell BK172.out 0).trans rfl; have hcz19_1 : w18.cell? ⟨gb172, 1, none⟩ = some (.slice A0_1 l0_1.length c0_1) := (blk_cell BK172.out 1).trans rfl; have hcz19_2 : w18.cell? ⟨gb172, 2, none⟩ = some (.slice A0_2 l0_2.length c0_2) := (blk_cell BK172.out 2).trans rfl; have hcz19_3 : w18.cell? ⟨gb172, 3, none⟩ = some (.slice A0_3 l0_3.length c0_3) := (blk_cell BK172.out 3).trans rfl; have hcz19_4 : w18.cell? ⟨gb172, 4, none⟩ = some (.slice A0_4 l0_4.length c0_4) := (blk_cell BK172.out 4).trans rfl; have hcz19_5 : w18.cell? ⟨gb172, 5, none⟩ = some (.slice A0_5 l0_5.length c0_5) := (blk_cell BK172.out 5).trans rfl; have hcz19_6 : w18.cell? ⟨gb172, 6, none⟩ = some (.slice A0_6 l0_6.length c0_6) := (blk_cell BK172.out 6).trans rfl; have hfz19_0 := blk_frozen BK172.out 0; have hfz19_1 := blk_frozen BK172.out 1; have hfz19_2 := blk_frozen BK172.out 2; have hfz19_3 := blk_frozen BK172.out 3; have hfz19_4 := blk_frozen BK172.out 4; have hfz19_5 := blk_frozen BK172.out 5; have hfz19_6 := blk_frozen BK172.out 6))
      go_ret
      exact ⟨by first | rfl | (simp [errW_none, errW_some] <;> rfl) | (simp [*, errW_none, errW_some] <;> rfl), by repeat (first | (with_reducible first | exact HB.out | apply below_alloc | apply pw_below_drewN | apply below_drew1 | refine below_set ?_ GE172.out) | exact HB.out)⟩
  · rw [if_neg c2] at H
    have c2b0 : decide ((l0_0.length : Int) ≤ 200) = false := decide_eq_false c2
    have c2b1 : decide (l0_0.length ≤ 200) = false := decide_eq_false (by omega)
    clear c2
    obtain rfl := Option.some.inj H
    go_enter Try.func21, Try.ntmps21
    go_wp2_with (first | ((with_reducible refine gate_dst (N := 1) rfl ?_); (try (refine gate_guard (by rfl) ?_; dsimp only)); refine box_event ?hg (N := 1) ?hd (cs := #[.slice A0_0 l0_0.length c0_0, .slice A0_1 l0_1.length c0_1, .slice A0_2 l0_2.length c0_2, .slice A0_3 l0_3.length c0_3, .slice A0_4 l0_4.length c0_4, .slice A0_5 l0_5.length c0_5, .slice A0_6 l0_6.length c0_6]) (t := 28) ?hr ?_; (case hd => rfl); (case hg => rfl); (case hr => first | (go_simp; done) | (go_simp; rfl)); intro gb172 hg w20 hbox hb; have n0_ := Aside0.mk (below_step (by repeat (first | (with_reducible first | exact HB.out | apply below_alloc | apply pw_below_drewN | apply below_drew1) | exact HB.out)) hb); have n1_ := Aside0.mk (hbox); have n2_ := Aside0.mk ((by rw [hg]; exact (below_size (by repeat (first | (with_reducible first | exact HB.out | apply below_alloc | apply pw_below_drewN | apply below_drew1) | exact HB.out))) : w.heap.size ≤ gb172)); have n3_ := Aside0.mk ((by rw [hg]; exact (below_size (by repeat (first | (with_reducible first | exact HB.out | apply below_alloc | apply pw_below_drewN | apply below_drew1) | exact HB.out))) : w.heap.size ≤ gb172)); clear HB; have HB := n0_; have BK172 := n1_; have GW172 := n2_; have GE172 := n3_; clear n0_ n1_ n2_ n3_; clear hb hbox hg; have hcz21_0 : w20.cell? ⟨gb172, 0, none⟩ = some (.slice A0_0 l0_0.length c0_0) := (blk_cell BK172.out 0).trans rfl; have hcz21_1 : w20.cell? ⟨gb172, 1, none⟩ = some (.slice A0_1 l0_1.length c0_1) := (blk_cell BK172.out 1).trans rfl; have hcz21_2 : w20.cell? ⟨gb172, 2, none⟩ = some (.slice A0_2 l0_2.length c0_2) := (blk_cell BK172.out 2).trans rfl; have hcz21_3 : w20.cell? ⟨gb172, 3, none⟩ = some (.slice A0_3 l0_3.length c0_3) := (blk_cell BK172.out 3).trans rfl; have hcz21_4 : w20.cell? ⟨gb172, 4, none⟩ = some (.slice A0_4 l0_4.length c0_4) := (blk_cell BK172.out 4).trans rfl; have hcz21_5 : w20.cell? ⟨gb172, 5, none⟩ = some (.slice A0_5 l0_5.length c0_5) := (blk_cell BK172.out 5).trans rfl; have hcz21_6 : w20.cell? ⟨gb172, 6, none⟩ = some (.slice A0_6 l0_6.length c0_6) := (blk_cell BK172.out 6).trans rfl; have hfz21_0 := blk_frozen BK172.out 0; have hfz21_1 := blk_frozen BK172.out 1; have hfz21_2 := blk_frozen BK172.out 2; have hfz21_3 := blk_frozen BK172.out 3; have hfz21_4 := blk_frozen BK172.out 4; have hfz21_5 := blk_frozen BK172.out 5; have hfz21_6 := blk_frozen BK172.out 6))
    go_ret
    exact ⟨by first | rfl | (simp [errW_none, errW_some] <;> rfl) | (simp [*, errW_none, errW_some] <;> rfl), by repeat (first | (with_reducible first | exact HB.out | apply below_alloc | apply pw_below_drewN | apply below_drew1 | refine below_set ?_ GE172.out) | exact HB.out)⟩

/-! ### zoneinforef15_Descent: function 18 -/
def zoneinforef15_Descent.l0 : Nat → List Int → Int → Option (Int)
  | 0, _, _ => none
  | k + 1, x0, x3 => if x3 < (x0.length : Int) then (if 0 ≤ (wrap64 (x3 - 1)) then (if (wrap64 (x3 - 1)) < (x0.length : Int) then (if 0 ≤ x3 then (if (rd x0 (wrap64 (x3 - 1))) ≥ (rd x0 x3) then (some x3) else (zoneinforef15_Descent.l0 k x0 (wrap64 (x3 + 1)))) else (none)) else (none)) else (none)) else (some (-1))
def zoneinforef15_Descent.f (k : Nat) (l0 : List Int) : Option (Int) := zoneinforef15_Descent.l0 k l0 1
theorem zoneinforef15_Descent.mono_l : ∀ k, (∀ y0 y1, LeO (zoneinforef15_Descent.l0 k y0 y1) (zoneinforef15_Descent.l0 (k + 1) y0 y1))
  | 0 => fun _ _ r h => by simp [zoneinforef15_Descent.l0] at h
  | k + 1 => by
    have ih0 := zoneinforef15_Descent.mono_l k
    · intro y0 y1
      unfold zoneinforef15_Descent.l0
      repeat' first
      | (with_reducible exact ih0 _ _)
      | (with_reducible exact LeO.refl _)
      | (with_reducible exact LeO.none _)
      | (with_reducible refine LeO.ite ?_ ?_)
      | (with_reducible refine LeO.bind ?_ (fun _ => ?_))
      | exact ih0 _ _
      | exact LeO.none _
      | refine LeO.ite ?_ ?_
      | refine LeO.bind ?_ (fun _ => ?_)
theorem zoneinforef15_Descent.mono : ∀ a0 k, LeO (zoneinforef15_Descent.f k a0) (zoneinforef15_Descent.f (k + 1) a0) := by
  intro a0 k
  have ih0 := zoneinforef15_Descent.mono_l k
  unfold zoneinforef15_Descent.f
  repeat' first
      | (with_reducible exact ih0 _ _)
      | (with_reducible exact LeO.refl _)
      | (with_reducible exact LeO.none _)
      | (with_reducible refine LeO.ite ?_ ?_)
      | (with_reducible refine LeO.bind ?_ (fun _ => ?_))
      | exact ih0 _ _
      | exact LeO.none _
      | refine LeO.ite ?_ ?_
      | refine LeO.bind ?_ (fun _ => ?_)
set_option maxHeartbeats 8000000 in
set_option maxRecDepth 100000 in
theorem zoneinforef15_Descent.calls (k : Nat) (A0 : Option Addr) (c0 : Nat) (l0 : List Int) (r : Int) (w : World) (hr0 : Kd.C (Kd.int .i64) w A0 l0.length l0) (hc0 : l0.length ≤ c0) (h : zoneinforef15_Descent.f k l0 = some r) :
    Calls Try.prog 18 #[.slice A0 l0.length c0] w fun e w' => e = .returned (.int .i64 r) ∧ Drawn0 w w' := by
  have HR0 := Aside0.mk hr0
  have HC0 := Aside0.mk hc0
  clear hr0 hc0
  have H : (zoneinforef15_Descent.l0 k l0 1) = some r := h
  clear h
  have H' := Aside0.mk H
  clear H
  go_enter Try.func18, Try.ntmps18
  go_wp2
  repeat (go_quiet (fail); try go_wp2)
  go_loopg [3] k (fun kq v3 w' => ∃ (x3_1 : Int), v3 = .int .i64 x3_1 ∧ Aside0 (zoneinforef15_Descent.l0 kq l0 x3_1 = some r) ∧ Aside0 (kq ≤ k) ∧ Drawn0 w w')
  case atStart => exact ⟨(1), (by first | rfl | (simp; done) | (simp [*]; done)), H', ⟨Nat.le_refl _⟩, by repeat (first | exact Drawn0.refl _ | apply Drawn0.step)⟩
  case round =>
    clear H'
    try clear c1
    obtain ⟨x3_1, rfl, HA, HK1, ⟨m1, rfl⟩⟩ := hrel
    cases gk with
    | zero => exact absurd HA.out (by simp [zoneinforef15_Descent.l0])
    | succ k1 =>
      have H := HA.out
      clear HA
      simp only [zoneinforef15_Descent.l0] at H
      by_cases c2 : x3_1 < (l0.length : Int)
      · rw [if_pos c2] at H
        have c2b0 : decide (x3_1 < (l0.length : Int)) = true := decide_eq_true c2
        clear c2
        obtain ⟨ji3, hji3⟩ : ∃ j_ : Int, (wrap64 (x3_1 - 1)) = j_ := ⟨_, rfl⟩
        replace H : (if 0 ≤ (ji3) then (if (ji3) < (l0.length : Int) then (if 0 ≤ x3_1 then (if (rd l0 (ji3)) ≥ (rd l0 x3_1) then (some x3_1) else (zoneinforef15_Descent.l0 k1 l0 (wrap64 (x3_1 + 1)))) else (none)) else (none)) else (none)) = some r := by first | (rw [hji3] at H; exact H) | (simp only [hji3] at H ⊢; exact H)
        have hji3w : (IntKind.i64.wrap (x3_1 - 1)) = ji3 := (i64_w _).trans hji3
        by_cases c4 : 0 ≤ (ji3)
        · rw [if_pos c4] at H
          have c4b0 : decide (0 ≤ (ji3)) = true := decide_eq_true c4
          clear c4
          by_cases c5 : (ji3) < (l0.length : Int)
          · rw [if_pos c5] at H
            have c5b0 : decide ((ji3) < (l0.length : Int)) = true := decide_eq_true c5
            clear c5
            by_cases c6 : 0 ≤ x3_1
            · rw [if_pos c6] at H
              have c6b0 : decide (0 ≤ x3_1) = true := decide_eq_true c6
              clear c6
              by_cases c7 : (rd l0 (ji3)) ≥ (rd l0 x3_1)
              · rw [if_pos c7] at H
                have c7b0 : decide ((rd l0 x3_1) ≤ (rd l0 (ji3))) = true := decide_eq_true c7
                clear c7
                obtain rfl := Option.some.inj H
                have p173 : 0 ≤ ((ji3) : Int) := of_decide_eq_true (by first | (with_reducible assumption) | assumption)
                have q173 : (ji3) < (l0.length : Int) := of_decide_eq_true (by first | (with_reducible assumption) | assumption)
                obtain ⟨ad173, e173, hx173_0⟩ := Kd.at_int HR0.out (ji3) p173 q173
                cases e173
                replace p173 := eq_true p173
                replace q173 := eq_true q173
                have p174 : 0 ≤ (x3_1 : Int) := of_decide_eq_true (by first | (with_reducible assumption) | assumption)
                have q174 : x3_1 < (l0.length : Int) := of_decide_eq_true (by first | (with_reducible assumption) | assumption)
                obtain ⟨ad174, e174, hx174_0⟩ := Kd.at_int HR0.out x3_1 p174 q174
                obtain rfl : ad173 = ad174 := (by injection e174)
                replace p174 := eq_true p174
                replace q174 := eq_true q174
                go_wp2
                repeat (go_quiet (fail); try go_wp2)
                go_ret
                exact ⟨by first | rfl | (simp; done) | (simp only [← hji3] <;> (first | rfl | simp)) | (simp [*]; done), by repeat (first | exact Drawn0.refl _ | apply Drawn0.step)⟩
              · rw [if_neg c7] at H
                have c7b0 : decide ((rd l0 x3_1) ≤ (rd l0 (ji3))) = false := decide_eq_false c7
                clear c7
                have H' := Aside0.mk H
                clear H
                have p173 : 0 ≤ ((ji3) : Int) := of_decide_eq_true (by first | (with_reducible assumption) | assumption)
                have q173 : (ji3) < (l0.length : Int) := of_decide_eq_true (by first | (with_reducible assumption) | assumption)
                obtain ⟨ad173, e173, hx173_0⟩ := Kd.at_int HR0.out (ji3) p173 q173
                cases e173
                replace p173 := eq_true p173
                replace q173 := eq_true q173
                have p174 : 0 ≤ (x3_1 : Int) := of_decide_eq_true (by first | (with_reducible assumption) | assumption)
                have q174 : x3_1 < (l0.length : Int) := of_decide_eq_true (by first | (with_reducible assumption) | assumption)
                obtain ⟨ad174, e174, hx174_0⟩ := Kd.at_int HR0.out x3_1 p174 q174
                obtain rfl : ad173 = ad174 := (by injection e174)
                replace p174 := eq_true p174
                replace q174 := eq_true q174
                go_wp2
                repeat (go_quiet (fail); try go_wp2)
                go_roundg k1
                case measure => have := HK1.out; omega
                case rel => exact ⟨(wrap64 (x3_1 + 1)), (by first | rfl | (simp; done) | (simp [*]; done)), H', ⟨by have := HK1.out; omega⟩, by repeat (first | exact Drawn0.refl _ | apply Drawn0.step)⟩
            · rw [if_neg c6] at H
              exact absurd H (by simp)
          · rw [if_neg c5] at H
            exact absurd H (by simp)
        · rw [if_neg c4] at H
          exact absurd H (by simp)
      · rw [if_neg c2] at H
        have c2b0 : decide (x3_1 < (l0.length : Int)) = false := decide_eq_false c2
        clear c2
        obtain rfl := Option.some.inj H
        go_wp2
        repeat (go_quiet (fail); try go_wp2)
        go_ret
        exact ⟨by first | rfl | (simp; done) | (simp [*]; done), by repeat (first | exact Drawn0.refl _ | apply Drawn0.step)⟩

/-! ### zoneinforef01_half: function 34 -/
def zoneinforef01_half.l0 : Nat → Int → Int → Int → Option (Int)
  | 0, _, _, _ => none
  | k + 1, x0, x3, x4 => if x4 < x0 then (zoneinforef01_half.l0 k x0 (IntKind.u64.wrap (x3 * 256)) (wrap64 (x4 + 1))) else (some x3)
def zoneinforef01_half.f (k : Nat) (a0 : Int) : Option (Int) := zoneinforef01_half.l0 k a0 128 1
theorem zoneinforef01_half.mono_l : ∀ k, (∀ y0 y1 y2, LeO (zoneinforef01_half.l0 k y0 y1 y2) (zoneinforef01_half.l0 (k + 1) y0 y1 y2))
  | 0 => fun _ _ _ r h => by simp [zoneinforef01_half.l0] at h
  | k + 1 => by
    have ih0 := zoneinforef01_half.mono_l k
    · intro y0 y1 y2
      unfold zoneinforef01_half.l0
      repeat' first
      | (with_reducible exact ih0 _ _ _)
      | (with_reducible exact LeO.refl _)
      | (with_reducible exact LeO.none _)
      | (with_reducible refine LeO.ite ?_ ?_)
      | (with_reducible refine LeO.bind ?_ (fun _ => ?_))
      | exact ih0 _ _ _
      | exact LeO.none _
      | refine LeO.ite ?_ ?_
      | refine LeO.bind ?_ (fun _ => ?_)
theorem zoneinforef01_half.mono : ∀ a0 k, LeO (zoneinforef01_half.f k a0) (zoneinforef01_half.f (k + 1) a0) := by
  intro a0 k
  have ih0 := zoneinforef01_half.mono_l k
  unfold zoneinforef01_half.f
  repeat' first
      | (with_reducible exact ih0 _ _ _)
      | (with_reducible exact LeO.refl _)
      | (with_reducible exact LeO.none _)
      | (with_reducible refine LeO.ite ?_ ?_)
      | (with_reducible refine LeO.bind ?_ (fun _ => ?_))
      | exact ih0 _ _ _
      | exact LeO.none _
      | refine LeO.ite ?_ ?_
      | refine LeO.bind ?_ (fun _ => ?_)
set_option maxHeartbeats 8000000 in
set_option maxRecDepth 100000 in
theorem zoneinforef01_half.calls (k : Nat) (a0 : Int) (r : Int) (w : World) (h : zoneinforef01_half.f k a0 = some r) :
    Calls Try.prog 34 #[.int .i64 a0] w fun e w' => e = .returned (.int .u64 r) ∧ Drawn0 w w' := by
  have H : (zoneinforef01_half.l0 k a0 128 1) = some r := h
  clear h
  have H' := Aside0.mk H
  clear H
  go_enter Try.func34, Try.ntmps34
  go_wp2
  go_loopg [3, 4] k (fun kq v3 v4 w' => ∃ (x3_1 : Int) (x4_1 : Int), v3 = .int .u64 x3_1 ∧ v4 = .int .i64 x4_1 ∧ Aside0 (zoneinforef01_half.l0 kq a0 x3_1 x4_1 = some r) ∧ Aside0 (kq ≤ k) ∧ Drawn0 w w')
  case atStart => exact ⟨(128), (1), (by first | rfl | (simp; done) | (simp [*]; done)), (by first | rfl | (simp; done) | (simp [*]; done)), H', ⟨Nat.le_refl _⟩, by repeat (first | exact Drawn0.refl _ | apply Drawn0.step)⟩
  case round =>
    clear H'
    obtain ⟨x3_1, x4_1, rfl, rfl, HA, HK1, ⟨m1, rfl⟩⟩ := hrel
    cases gk with
    | zero => exact absurd HA.out (by simp [zoneinforef01_half.l0])
    | succ k1 =>
      have H := HA.out
      clear HA
      simp only [zoneinforef01_half.l0] at H
      by_cases c2 : x4_1 < a0
      · rw [if_pos c2] at H
        have c2b0 : decide (x4_1 < a0) = true := decide_eq_true c2
        clear c2
        have H' := Aside0.mk H
        clear H
        go_wp2
        go_roundg k1
        case measure => have := HK1.out; omega
        case rel => exact ⟨(IntKind.u64.wrap (x3_1 * 256)), (wrap64 (x4_1 + 1)), (by first | rfl | (simp; done) | (simp [*]; done)), (by first | rfl | (simp; done) | (simp [*]; done)), H', ⟨by have := HK1.out; omega⟩, by repeat (first | exact Drawn0.refl _ | apply Drawn0.step)⟩
      · rw [if_neg c2] at H
        have c2b0 : decide (x4_1 < a0) = false := decide_eq_false c2
        clear c2
        obtain rfl := Option.some.inj H
        go_wp2
        go_ret
        exact ⟨by first | rfl | (simp; done) | (simp [*]; done), by repeat (first | exact Drawn0.refl _ | apply Drawn0.step)⟩

/-! ### zoneinforef01_Fits: function 28 -/
def zoneinforef01_Fits.f (k : Nat) (a0 : Int) (a1 : Int) : Option (Bool) := if a1 = 8 then (some true) else ((zoneinforef01_half.f k a1).bind fun t175 => (if a0 ≥ (wrap64 (-(wrap64 (t175)))) then (some (decide (a0 < (wrap64 (t175))))) else (some false)))
theorem zoneinforef01_Fits.mono : ∀ a0 a1 k, LeO (zoneinforef01_Fits.f k a0 a1) (zoneinforef01_Fits.f (k + 1) a0 a1) := by
  intro a0 a1 k
  unfold zoneinforef01_Fits.f
  repeat' first
      | (with_reducible exact zoneinforef01_half.mono _ _)
      | (with_reducible exact LeO.refl _)
      | (with_reducible exact LeO.none _)
      | (with_reducible refine LeO.ite ?_ ?_)
      | (with_reducible refine LeO.bind ?_ (fun _ => ?_))
      | exact zoneinforef01_half.mono _ _
      | exact LeO.none _
      | refine LeO.ite ?_ ?_
      | refine LeO.bind ?_ (fun _ => ?_)
set_option maxHeartbeats 8000000 in
set_option maxRecDepth 100000 in
theorem zoneinforef01_Fits.calls (k : Nat) (a0 : Int) (a1 : Int) (r : Bool) (w : World) (h : zoneinforef01_Fits.f k a0 a1 = some r) :
    Calls Try.prog 28 #[.int .i64 a0, .int .i64 a1] w fun e w' => e = .returned (.bool r) ∧ Drawn0 w w' := by
  have H : (if a1 = 8 then (some true) else ((zoneinforef01_half.f k a1).bind fun t175 => (if a0 ≥ (wrap64 (-(wrap64 (t175)))) then (some (decide (a0 < (wrap64 (t175))))) else (some false)))) = some r := h
  clear h
  by_cases c3 : a1 = 8
  · rw [if_pos c3] at H
    have c3b0 : (a1 == 8) = true := beq_iff_eq.mpr c3
    have c3b1 : (a1 != 8) = false := bne_eq_false_iff_eq.mpr c3
    clear c3
    obtain rfl := Option.some.inj H
    go_enter Try.func28, Try.ntmps28
    go_wp2
    go_ret
    exact ⟨by first | rfl | (simp; done) | (simp [*]; done), by repeat (first | exact Drawn0.refl _ | apply Drawn0.step)⟩
  · rw [if_neg c3] at H
    have c3b0 : (a1 == 8) = false := beq_eq_false_iff_ne.mpr c3
    have c3b1 : (a1 != 8) = true := bne_iff_ne.mpr c3
    replace H := Option.bind_eq_some_iff.mp H
    obtain ⟨t175, A40, H⟩ := H
    replace H : (if a0 ≥ (wrap64 (-(wrap64 (t175)))) then (some (decide (a0 < (wrap64 (t175))))) else (some false)) = some r := H
    have A4 := Aside0.mk A40
    clear A40
    by_cases c5 : a0 ≥ (wrap64 (-(wrap64 (t175))))
    · rw [if_pos c5] at H
      have c5b0 : decide ((wrap64 (-(wrap64 (t175)))) ≤ a0) = true := decide_eq_true c5
      clear c5
      obtain rfl := Option.some.inj H
      go_enter Try.func28, Try.ntmps28
      go_wp2_with (first | ((with_reducible refine gate_callee (f := 34) rfl ?_); refine goesL_ (some 9) rfl rfl Try.func34 (by kernel_rfl) rfl #[.int .i64 a1] rfl (by (try simp only [List.map_toArray, List.map_cons, List.map_nil]); first | done | rfl | (simp only [List.length_drop, List.length_take]; rfl)) ?_; (with_reducible refine (zoneinforef01_half.calls k a1 t175 _ A4.out).mono ?_); rintro e w' ⟨rfl, ⟨nd, rfl⟩⟩; refine ⟨_, rfl, ?_⟩))
      go_ret
      exact ⟨by first | rfl | (simp; done) | (simp [*]; done), by repeat (first | exact Drawn0.refl _ | apply Drawn0.step)⟩
    · rw [if_neg c5] at H
      have c5b0 : decide ((wrap64 (-(wrap64 (t175)))) ≤ a0) = false := decide_eq_false c5
      clear c5
      obtain rfl := Option.some.inj H
      go_enter Try.func28, Try.ntmps28
      go_wp2_with (first | ((with_reducible refine gate_callee (f := 34) rfl ?_); refine goesL_ (some 9) rfl rfl Try.func34 (by kernel_rfl) rfl #[.int .i64 a1] rfl (by (try simp only [List.map_toArray, List.map_cons, List.map_nil]); first | done | rfl | (simp only [List.length_drop, List.length_take]; rfl)) ?_; (with_reducible refine (zoneinforef01_half.calls k a1 t175 _ A4.out).mono ?_); rintro e w' ⟨rfl, ⟨nd, rfl⟩⟩; refine ⟨_, rfl, ?_⟩))
      go_ret
      exact ⟨by first | rfl | (simp; done) | (simp [*]; done), by repeat (first | exact Drawn0.refl _ | apply Drawn0.step)⟩

/-! ### zoneinforef15_Fit: function 27 -/
def zoneinforef15_Fit.l0 : Nat → List Int → Int → Int → Option (Bool)
  | 0, _, _, _ => none
  | k + 1, x0, x1, x5 => if x5 < (x0.length : Int) then (if 0 ≤ x5 then ((zoneinforef01_Fits.f k (rd x0 x5) x1).bind fun t177 => (if t177 = true then (zoneinforef15_Fit.l0 k x0 x1 (wrap64 (x5 + 1))) else (some false))) else (none)) else (some true)
def zoneinforef15_Fit.f (k : Nat) (l0 : List Int) (a1 : Int) : Option (Bool) := zoneinforef15_Fit.l0 k l0 a1 0
theorem zoneinforef15_Fit.mono_l : ∀ k, (∀ y0 y1 y2, LeO (zoneinforef15_Fit.l0 k y0 y1 y2) (zoneinforef15_Fit.l0 (k + 1) y0 y1 y2))
  | 0 => fun _ _ _ r h => by simp [zoneinforef15_Fit.l0] at h
  | k + 1 => by
    have ih0 := zoneinforef15_Fit.mono_l k
    · intro y0 y1 y2
      unfold zoneinforef15_Fit.l0
      repeat' first
      | (with_reducible exact ih0 _ _ _)
      | (with_reducible exact zoneinforef01_Fits.mono _ _ _)
      | (with_reducible exact LeO.refl _)
      | (with_reducible exact LeO.none _)
      | (with_reducible refine LeO.ite ?_ ?_)
      | (with_reducible refine LeO.bind ?_ (fun _ => ?_))
      | exact ih0 _ _ _
      | exact zoneinforef01_Fits.mono _ _ _
      | exact LeO.none _
      | refine LeO.ite ?_ ?_
      | refine LeO.bind ?_ (fun _ => ?_)
theorem zoneinforef15_Fit.mono : ∀ a0 a1 k, LeO (zoneinforef15_Fit.f k a0 a1) (zoneinforef15_Fit.f (k + 1) a0 a1) := by
  intro a0 a1 k
  have ih0 := zoneinforef15_Fit.mono_l k
  unfold zoneinforef15_Fit.f
  repeat' first
      | (with_reducible exact ih0 _ _ _)
      | (with_reducible exact zoneinforef01_Fits.mono _ _ _)
      | (with_reducible exact LeO.refl _)
      | (with_reducible exact LeO.none _)
      | (with_reducible refine LeO.ite ?_ ?_)
      | (with_reducible refine LeO.bind ?_ (fun _ => ?_))
      | exact ih0 _ _ _
      | exact zoneinforef01_Fits.mono _ _ _
      | exact LeO.none _
      | refine LeO.ite ?_ ?_
      | refine LeO.bind ?_ (fun _ => ?_)
set_option maxHeartbeats 8000000 in
set_option maxRecDepth 100000 in
theorem zoneinforef15_Fit.calls (k : Nat) (A0 : Option Addr) (c0 : Nat) (l0 : List Int) (a1 : Int) (r : Bool) (w : World) (hr0 : Kd.C (Kd.int .i64) w A0 l0.length l0) (hc0 : l0.length ≤ c0) (h : zoneinforef15_Fit.f k l0 a1 = some r) :
    Calls Try.prog 27 #[.slice A0 l0.length c0, .int .i64 a1] w fun e w' => e = .returned (.bool r) ∧ Drawn0 w w' := by
  have HR0 := Aside0.mk hr0
  have HC0 := Aside0.mk hc0
  clear hr0 hc0
  have H : (zoneinforef15_Fit.l0 k l0 a1 0) = some r := h
  clear h
  have H' := Aside0.mk H
  clear H
  go_enter Try.func27, Try.ntmps27
  go_wp2
  go_loopg [5] k (fun kq v5 w' => ∃ (x5_1 : Int), v5 = .int .i64 x5_1 ∧ Aside0 (zoneinforef15_Fit.l0 kq l0 a1 x5_1 = some r) ∧ Aside0 (kq ≤ k) ∧ Drawn0 w w')
  case atStart => exact ⟨(0), (by first | rfl | (simp; done) | (simp [*]; done)), H', ⟨Nat.le_refl _⟩, by repeat (first | exact Drawn0.refl _ | apply Drawn0.step)⟩
  case round =>
    clear H'
    try clear c2
    try clear p2
    obtain ⟨x5_1, rfl, HA, HK1, ⟨m1, rfl⟩⟩ := hrel
    cases gk with
    | zero => exact absurd HA.out (by simp [zoneinforef15_Fit.l0])
    | succ k1 =>
      have H := HA.out
      clear HA
      simp only [zoneinforef15_Fit.l0] at H
      by_cases c3 : x5_1 < (l0.length : Int)
      · rw [if_pos c3] at H
        have c3b0 : decide (x5_1 < (l0.length : Int)) = true := decide_eq_true c3
        clear c3
        by_cases c4 : 0 ≤ x5_1
        · rw [if_pos c4] at H
          have c4b0 : decide (0 ≤ x5_1) = true := decide_eq_true c4
          clear c4
          replace H := Option.bind_eq_some_iff.mp H
          obtain ⟨t177, A50, H⟩ := H
          replace H : (if t177 = true then (zoneinforef15_Fit.l0 k1 l0 a1 (wrap64 (x5_1 + 1))) else (some false)) = some r := H
          have A5 := Aside0.mk A50
          clear A50
          by_cases c6 : t177 = true
          · subst c6
            have H1 : (zoneinforef15_Fit.l0 k1 l0 a1 (wrap64 (x5_1 + 1))) = some r := by rw [if_pos rfl] at H; exact H
            clear H
            have H := H1
            clear H1
            have H' := Aside0.mk H
            clear H
            have p176 : 0 ≤ (x5_1 : Int) := of_decide_eq_true (by first | (with_reducible assumption) | assumption)
            have q176 : x5_1 < (l0.length : Int) := of_decide_eq_true (by first | (with_reducible assumption) | assumption)
            obtain ⟨ad176, e176, hx176_0⟩ := Kd.at_int HR0.out x5_1 p176 q176
            cases e176
            replace p176 := eq_true p176
            replace q176 := eq_true q176
            go_wp2_with (first | ((with_reducible refine gate_callee (f := 28) rfl ?_); refine goesL_ (some 17) rfl rfl Try.func28 (by kernel_rfl) rfl #[.int .i64 (rd l0 x5_1), .int .i64 a1] rfl (by (try simp only [List.map_toArray, List.map_cons, List.map_nil]); first | done | rfl | (simp only [List.length_drop, List.length_take]; rfl)) ?_; (with_reducible refine (zoneinforef01_Fits.calls k1 (rd l0 x5_1) a1 true _ A5.out).mono ?_); rintro e w' ⟨rfl, ⟨nd, rfl⟩⟩; refine ⟨_, rfl, ?_⟩))
            go_roundg k1
            case measure => have := HK1.out; omega
            case rel => exact ⟨(wrap64 (x5_1 + 1)), (by first | rfl | (simp; done) | (simp [*]; done)), H', ⟨by have := HK1.out; omega⟩, by repeat (first | exact Drawn0.refl _ | apply Drawn0.step)⟩
          · replace c6 := Bool.eq_false_iff.mpr c6
            subst c6
            have H1 : (some false) = some r := by rw [if_neg (show ¬ (false = true) by decide)] at H; exact H
            clear H
            have H := H1
            clear H1
            obtain rfl := Option.some.inj H
            have p176 : 0 ≤ (x5_1 : Int) := of_decide_eq_true (by first | (with_reducible assumption) | assumption)
            have q176 : x5_1 < (l0.length : Int) := of_decide_eq_true (by first | (with_reducible assumption) | assumption)
            obtain ⟨ad176, e176, hx176_0⟩ := Kd.at_int HR0.out x5_1 p176 q176
            cases e176
            replace p176 := eq_true p176
            replace q176 := eq_true q176
            go_wp2_with (first | ((with_reducible refine gate_callee (f := 28) rfl ?_); refine goesL_ (some 17) rfl rfl Try.func28 (by kernel_rfl) rfl #[.int .i64 (rd l0 x5_1), .int .i64 a1] rfl (by (try simp only [List.map_toArray, List.map_cons, List.map_nil]); first | done | rfl | (simp only [List.length_drop, List.length_take]; rfl)) ?_; (with_reducible refine (zoneinforef01_Fits.calls k1 (rd l0 x5_1) a1 false _ A5.out).mono ?_); rintro e w' ⟨rfl, ⟨nd, rfl⟩⟩; refine ⟨_, rfl, ?_⟩))
            go_ret
            exact ⟨by first | rfl | (simp; done) | (simp [*]; done), by repeat (first | exact Drawn0.refl _ | apply Drawn0.step)⟩
        · rw [if_neg c4] at H
          exact absurd H (by simp)
      · rw [if_neg c3] at H
        have c3b0 : decide (x5_1 < (l0.length : Int)) = false := decide_eq_false c3
        clear c3
        obtain rfl := Option.some.inj H
        go_wp2
        go_ret
        exact ⟨by first | rfl | (simp; done) | (simp [*]; done), by repeat (first | exact Drawn0.refl _ | apply Drawn0.step)⟩

end Go.Proofs.Ytfminjencigfeaa.G
