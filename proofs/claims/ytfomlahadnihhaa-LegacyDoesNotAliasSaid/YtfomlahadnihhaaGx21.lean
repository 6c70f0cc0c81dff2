/- Written by a program of this session for this seat: contracts of the functions that its laws reach, or the row of a law over its plain part. -/
import Derived.Test.YtfomlahadnihhaaMac
import Derived.Test.YtfomlahadnihhaaGx0
import Derived.Test.YtfomlahadnihhaaGx3
import Derived.Test.YtfomlahadnihhaaGx6
import Derived.Test.YtfomlahadnihhaaGx7
import Derived.Test.YtfomlahadnihhaaGx8
import Derived.Test.YtfomlahadnihhaaGx14
import Derived.Test.YtfomlahadnihhaaGx15
namespace Go.Proofs.Ytfomlahadnihhaa.G
open Go.RowKit Go.Proofs.YtfomlahadnihhaaW.PrintWords Go.Proofs.YtfomlahadnihhaaW.PrintLast Go.Proofs.YtfomlahadnihhaaW.PrintMore
attribute [local go_sem] max2_int min2_int max_two min_two max_three min_three max_four min_four   -- for this text's walks alone
set_option linter.unusedVariables false
set_option linter.unusedSimpArgs false

/-! ### zoneinfolaw22_LegacyDoesNotAlias: function 7 -/
mutual
def zoneinfolaw22_LegacyDoesNotAlias.j0 : Nat → Bool → List Int → List Int → List (S38) → List Int → List (S42) → List Bool → List Bool → Option (Bool)
  | 0, _, _, _, _, _, _, _, _ => none
  | k + 1, x16, x504000, x504001, x504002, x504003, x504004, x504005, x504006 => if x16 = true then ((zoneinfolaw22_awake.f).bind fun t506 => (some t506)) else ((legacy_View.f x504000 x504001 x504002 x504003 x504004 x504005 x504006).bind fun bt507 => ((zoneinforef22_View.f x504000 x504001 x504002 x504003 x504004 x504005 x504006).bind fun bt529 => (if (bt507.2.1.length : Int) = (bt507.1.length : Int) then (zoneinfolaw22_LegacyDoesNotAlias.l0 k 0 x504000 x504001 x504002 x504003 x504004 x504005 x504006 bt507.1 bt507.2.1 bt507.2.2.1 bt507.2.2.2.1 bt507.2.2.2.2.1 bt507.2.2.2.2.2.1 bt507.2.2.2.2.2.2 bt529.1 bt529.2.1 bt529.2.2.1 bt529.2.2.2.1 bt529.2.2.2.2.1 bt529.2.2.2.2.2.1 bt529.2.2.2.2.2.2) else (none))))
def zoneinfolaw22_LegacyDoesNotAlias.l0 : Nat → Int → List Int → List Int → List (S38) → List Int → List (S42) → List Bool → List Bool → List Int → List Int → List (S38) → List Int → List (S42) → List Bool → List Bool → List Int → List Int → List (S38) → List Int → List (S42) → List Bool → List Bool → Option (Bool)
  | 0, _, _, _, _, _, _, _, _, _, _, _, _, _, _, _, _, _, _, _, _, _, _ => none
  | k + 1, x5, x504000, x504001, x504002, x504003, x504004, x504005, x504006, x529000, x529001, x529002, x529003, x529004, x529005, x529006, x551000, x551001, x551002, x551003, x551004, x551005, x551006 => if x5 < (x529002.length : Int) then (if 0 ≤ x5 then (zoneinfolaw22_LegacyDoesNotAlias.l0 k (wrap64 (x5 + 1)) x504000 x504001 x504002 x504003 x504004 x504005 x504006 x529000 x529001 (x529002.set (x5 : Int).toNat (⟨77, (rd_T38 x529002 x5).f1, (rd_T38 x529002 x5).f2⟩ : S38)) x529003 x529004 x529005 x529006 x551000 x551001 x551002 x551003 x551004 x551005 x551006) else (none)) else (zoneinfolaw22_LegacyDoesNotAlias.l1 k 0 x504000 x504001 x504002 x504003 x504004 x504005 x504006 x529000 x529001 x529002 x529003 x529004 x529005 x529006 x551000 x551001 x551002 x551003 x551004 x551005 x551006)
def zoneinfolaw22_LegacyDoesNotAlias.l1 : Nat → Int → List Int → List Int → List (S38) → List Int → List (S42) → List Bool → List Bool → List Int → List Int → List (S38) → List Int → List (S42) → List Bool → List Bool → List Int → List Int → List (S38) → List Int → List (S42) → List Bool → List Bool → Option (Bool)
  | 0, _, _, _, _, _, _, _, _, _, _, _, _, _, _, _, _, _, _, _, _, _, _ => none
  | k + 1, x6, x504000, x504001, x504002, x504003, x504004, x504005, x504006, x529000, x529001, x529002, x529003, x529004, x529005, x529006, x551000, x551001, x551002, x551003, x551004, x551005, x551006 => if x6 < (x529000.length : Int) then (if 0 ≤ x6 then (if x6 < (x529001.length : Int) then (zoneinfolaw22_LegacyDoesNotAlias.l1 k (wrap64 (x6 + 1)) x504000 x504001 x504002 x504003 x504004 x504005 x504006 (x529000.set (x6 : Int).toNat 77) (x529001.set (x6 : Int).toNat 77) x529002 x529003 x529004 x529005 x529006 x551000 x551001 x551002 x551003 x551004 x551005 x551006) else (none)) else (none)) else (zoneinfolaw22_LegacyDoesNotAlias.l2 k 0 x504000 x504001 x504002 x504003 x504004 x504005 x504006 x529000 x529001 x529002 x529003 x529004 x529005 x529006 x551000 x551001 x551002 x551003 x551004 x551005 x551006)
def zoneinfolaw22_LegacyDoesNotAlias.l2 : Nat → Int → List Int → List Int → List (S38) → List Int → List (S42) → List Bool → List Bool → List Int → List Int → List (S38) → List Int → List (S42) → List Bool → List Bool → List Int → List Int → List (S38) → List Int → List (S42) → List Bool → List Bool → Option (Bool)
  | 0, _, _, _, _, _, _, _, _, _, _, _, _, _, _, _, _, _, _, _, _, _, _ => none
  | k + 1, x7, x504000, x504001, x504002, x504003, x504004, x504005, x504006, x529000, x529001, x529002, x529003, x529004, x529005, x529006, x551000, x551001, x551002, x551003, x551004, x551005, x551006 => if x7 < (x529003.length : Int) then (if 0 ≤ x7 then (zoneinfolaw22_LegacyDoesNotAlias.l2 k (wrap64 (x7 + 1)) x504000 x504001 x504002 x504003 x504004 x504005 x504006 x529000 x529001 x529002 (x529003.set (x7 : Int).toNat 77) x529004 x529005 x529006 x551000 x551001 x551002 x551003 x551004 x551005 x551006) else (none)) else (zoneinfolaw22_LegacyDoesNotAlias.l3 k 0 x504000 x504001 x504002 x504003 x504004 x504005 x504006 x529000 x529001 x529002 x529003 x529004 x529005 x529006 x551000 x551001 x551002 x551003 x551004 x551005 x551006)
def zoneinfolaw22_LegacyDoesNotAlias.l3 : Nat → Int → List Int → List Int → List (S38) → List Int → List (S42) → List Bool → List Bool → List Int → List Int → List (S38) → List Int → List (S42) → List Bool → List Bool → List Int → List Int → List (S38) → List Int → List (S42) → List Bool → List Bool → Option (Bool)
  | 0, _, _, _, _, _, _, _, _, _, _, _, _, _, _, _, _, _, _, _, _, _, _ => none
  | k + 1, x8, x504000, x504001, x504002, x504003, x504004, x504005, x504006, x529000, x529001, x529002, x529003, x529004, x529005, x529006, x551000, x551001, x551002, x551003, x551004, x551005, x551006 => if x8 < (x529005.length : Int) then (if 0 ≤ x8 then (zoneinfolaw22_LegacyDoesNotAlias.l3 k (wrap64 (x8 + 1)) x504000 x504001 x504002 x504003 x504004 x504005 x504006 x529000 x529001 x529002 x529003 x529004 (x529005.set (x8 : Int).toNat (!(rdOf false x529005 x8))) x529006 x551000 x551001 x551002 x551003 x551004 x551005 x551006) else (none)) else ((legacy_Slim.f).bind fun bt557 => (if 0 < (bt557.2.2.1.length : Int) then (if 0 < (bt557.2.2.2.1.length : Int) then ((legacy_View.f x504000 x504001 x504002 x504003 x504004 x504005 x504006).bind fun bt581 => ((zoneinforef19_Equal.f k bt581.1 bt581.2.1 bt581.2.2.1 bt581.2.2.2.1 bt581.2.2.2.2.1 bt581.2.2.2.2.2.1 bt581.2.2.2.2.2.2 x551000 x551001 x551002 x551003 x551004 x551005 x551006).bind fun t602 => (if t602 = true then ((legacy_Slim.f).bind fun bt603 => ((legacy_IsSlim.f k bt603.1 bt603.2.1 bt603.2.2.1 bt603.2.2.2.1 bt603.2.2.2.2.1 bt603.2.2.2.2.2.1 bt603.2.2.2.2.2.2).bind fun t624 => (some t624))) else (none)))) else (none)) else (none)))
end
def zoneinfolaw22_LegacyDoesNotAlias.f (k : Nat) (l0_0 : List Int) (l0_1 : List Int) (l0_2 : List (S38)) (l0_3 : List Int) (l0_4 : List (S42)) (l0_5 : List Bool) (l0_6 : List Bool) : Option (Bool) := (zoneinfolaw22_awake.f).bind fun t504 => (if t504 = true then ((zoneinfolaw22_valid.f k l0_0 l0_1 l0_2 l0_3 l0_4 l0_5 l0_6).bind fun t505 => (zoneinfolaw22_LegacyDoesNotAlias.j0 k (!t505) l0_0 l0_1 l0_2 l0_3 l0_4 l0_5 l0_6)) else (zoneinfolaw22_LegacyDoesNotAlias.j0 k true l0_0 l0_1 l0_2 l0_3 l0_4 l0_5 l0_6))
theorem zoneinfolaw22_LegacyDoesNotAlias.mono_l : ∀ k, (∀ y0 y1 y2 y3 y4 y5 y6 y7, LeO (zoneinfolaw22_LegacyDoesNotAlias.j0 k y0 y1 y2 y3 y4 y5 y6 y7) (zoneinfolaw22_LegacyDoesNotAlias.j0 (k + 1) y0 y1 y2 y3 y4 y5 y6 y7)) ∧ (∀ y0 y1 y2 y3 y4 y5 y6 y7 y8 y9 y10 y11 y12 y13 y14 y15 y16 y17 y18 y19 y20 y21, LeO (zoneinfolaw22_LegacyDoesNotAlias.l0 k y0 y1 y2 y3 y4 y5 y6 y7 y8 y9 y10 y11 y12 y13 y14 y15 y16 y17 y18 y19 y20 y21) (zoneinfolaw22_LegacyDoesNotAlias.l0 (k + 1) y0 y1 y2 y3 y4 y5 y6 y7 y8 y9 y10 y11 y12 y13 y14 y15 y16 y17 y18 y19 y20 y21)) ∧ (∀ y0 y1 y2 y3 y4 y5 y6 y7 y8 y9 y10 y11 y12 y13 y14 y15 y16 y17 y18 y19 y20 y21, LeO (zoneinfolaw22_LegacyDoesNotAlias.l1 k y0 y1 y2 y3 y4 y5 y6 y7 y8 y9 y10 y11 y12 y13 y14 y15 y16 y17 y18 y19 y20 y21) (zoneinfolaw22_LegacyDoesNotAlias.l1 (k + 1) y0 y1 y2 y3 y4 y5 y6 y7 y8 y9 y10 y11 y12 y13 y14 y15 y16 y17 y18 y19 y20 y21)) ∧ (∀ y0 y1 y2 y3 y4 y5 y6 y7 y8 y9 y10 y11 y12 y13 y14 y15 y16 y17 y18 y19 y20 y21, LeO (zoneinfolaw22_LegacyDoesNotAlias.l2 k y0 y1 y2 y3 y4 y5 y6 y7 y8 y9 y10 y11 y12 y13 y14 y15 y16 y17 y18 y19 y20 y21) (zoneinfolaw22_LegacyDoesNotAlias.l2 (k + 1) y0 y1 y2 y3 y4 y5 y6 y7 y8 y9 y10 y11 y12 y13 y14 y15 y16 y17 y18 y19 y20 y21)) ∧ (∀ y0 y1 y2 y3 y4 y5 y6 y7 y8 y9 y10 y11 y12 y13 y14 y15 y16 y17 y18 y19 y20 y21, LeO (zoneinfolaw22_LegacyDoesNotAlias.l3 k y0 y1 y2 y3 y4 y5 y6 y7 y8 y9 y10 y11 y12 y13 y14 y15 y16 y17 y18 y19 y20 y21) (zoneinfolaw22_LegacyDoesNotAlias.l3 (k + 1) y0 y1 y2 y3 y4 y5 y6 y7 y8 y9 y10 y11 y12 y13 y14 y15 y16 y17 y18 y19 y20 y21))
  | 0 => ⟨fun _ _ _ _ _ _ _ _ r h => by simp [zoneinfolaw22_LegacyDoesNotAlias.j0] at h, fun _ _ _ _ _ _ _ _ _ _ _ _ _ _ _ _ _ _ _ _ _ _ r h => by simp [zoneinfolaw22_LegacyDoesNotAlias.l0] at h, fun _ _ _ _ _ _ _ _ _ _ _ _ _ _ _ _ _ _ _ _ _ _ r h => by simp [zoneinfolaw22_LegacyDoesNotAlias.l1] at h, fun _ _ _ _ _ _ _ _ _ _ _ _ _ _ _ _ _ _ _ _ _ _ r h => by simp [zoneinfolaw22_LegacyDoesNotAlias.l2] at h, fun _ _ _ _ _ _ _ _ _ _ _ _ _ _ _ _ _ _ _ _ _ _ r h => by simp [zoneinfolaw22_LegacyDoesNotAlias.l3] at h⟩
  | k + 1 => by
    obtain ⟨ih0, ih1, ih2, ih3, ih4⟩ := zoneinfolaw22_LegacyDoesNotAlias.mono_l k; refine ⟨?_, ?_, ?_, ?_, ?_⟩
    · intro y0 y1 y2 y3 y4 y5 y6 y7
      unfold zoneinfolaw22_LegacyDoesNotAlias.j0
      repeat' first
      | (with_reducible exact ih0 _ _ _ _ _ _ _ _)
      | (with_reducible exact ih1 _ _ _ _ _ _ _ _ _ _ _ _ _ _ _ _ _ _ _ _ _ _)
      | (with_reducible exact ih2 _ _ _ _ _ _ _ _ _ _ _ _ _ _ _ _ _ _ _ _ _ _)
      | (with_reducible exact ih3 _ _ _ _ _ _ _ _ _ _ _ _ _ _ _ _ _ _ _ _ _ _)
      | (with_reducible exact ih4 _ _ _ _ _ _ _ _ _ _ _ _ _ _ _ _ _ _ _ _ _ _)
      | (with_reducible exact legacy_IsSlim.mono _ _ _ _ _ _ _ _)
      | (with_reducible exact zoneinfolaw22_valid.mono _ _ _ _ _ _ _ _)
      | (with_reducible exact zoneinforef19_Equal.mono _ _ _ _ _ _ _ _ _ _ _ _ _ _ _)
      | (with_reducible exact LeO.refl _)
      | (with_reducible exact LeO.none _)
      | (with_reducible refine LeO.ite ?_ ?_)
      | (with_reducible refine LeO.bind ?_ (fun _ => ?_))
      | exact ih0 _ _ _ _ _ _ _ _
      | exact ih1 _ _ _ _ _ _ _ _ _ _ _ _ _ _ _ _ _ _ _ _ _ _
      | exact ih2 _ _ _ _ _ _ _ _ _ _ _ _ _ _ _ _ _ _ _ _ _ _
      | exact ih3 _ _ _ _ _ _ _ _ _ _ _ _ _ _ _ _ _ _ _ _ _ _
      | exact ih4 _ _ _ _ _ _ _ _ _ _ _ _ _ _ _ _ _ _ _ _ _ _
      | exact legacy_IsSlim.mono _ _ _ _ _ _ _ _
      | exact zoneinfolaw22_valid.mono _ _ _ _ _ _ _ _
      | exact zoneinforef19_Equal.mono _ _ _ _ _ _ _ _ _ _ _ _ _ _ _
      | exact LeO.none _
      | refine LeO.ite ?_ ?_
      | refine LeO.bind ?_ (fun _ => ?_)
    · intro y0 y1 y2 y3 y4 y5 y6 y7 y8 y9 y10 y11 y12 y13 y14 y15 y16 y17 y18 y19 y20 y21
      unfold zoneinfolaw22_LegacyDoesNotAlias.l0
      repeat' first
      | (with_reducible exact ih0 _ _ _ _ _ _ _ _)
      | (with_reducible exact ih1 _ _ _ _ _ _ _ _ _ _ _ _ _ _ _ _ _ _ _ _ _ _)
      | (with_reducible exact ih2 _ _ _ _ _ _ _ _ _ _ _ _ _ _ _ _ _ _ _ _ _ _)
      | (with_reducible exact ih3 _ _ _ _ _ _ _ _ _ _ _ _ _ _ _ _ _ _ _ _ _ _)
      | (with_reducible exact ih4 _ _ _ _ _ _ _ _ _ _ _ _ _ _ _ _ _ _ _ _ _ _)
      | (with_reducible exact legacy_IsSlim.mono _ _ _ _ _ _ _ _)
      | (with_reducible exact zoneinfolaw22_valid.mono _ _ _ _ _ _ _ _)
      | (with_reducible exact zoneinforef19_Equal.mono _ _ _ _ _ _ _ _ _ _ _ _ _ _ _)
      | (with_reducible exact LeO.refl _)
      | (with_reducible exact LeO.none _)
      | (with_reducible refine LeO.ite ?_ ?_)
      | (with_reducible refine LeO.bind ?_ (fun _ => ?_))
      | exact ih0 _ _ _ _ _ _ _ _
      | exact ih1 _ _ _ _ _ _ _ _ _ _ _ _ _ _ _ _ _ _ _ _ _ _
      | exact ih2 _ _ _ _ _ _ _ _ _ _ _ _ _ _ _ _ _ _ _ _ _ _
      | exact ih3 _ _ _ _ _ _ _ _ _ _ _ _ _ _ _ _ _ _ _ _ _ _
      | exact ih4 _ _ _ _ _ _ _ _ _ _ _ _ _ _ _ _ _ _ _ _ _ _
      | exact legacy_IsSlim.mono _ _ _ _ _ _ _ _
      | exact zoneinfolaw22_valid.mono _ _ _ _ _ _ _ _
      | exact zoneinforef19_Equal.mono _ _ _ _ _ _ _ _ _ _ _ _ _ _ _
      | exact LeO.none _
      | refine LeO.ite ?_ ?_
      | refine LeO.bind ?_ (fun _ => ?_)
    · intro y0 y1 y2 y3 y4 y5 y6 y7 y8 y9 y10 y11 y12 y13 y14 y15 y16 y17 y18 y19 y20 y21
      unfold zoneinfolaw22_LegacyDoesNotAlias.l1
      repeat' first
      | (with_reducible exact ih0 _ _ _ _ _ _ _ _)
      | (with_reducible exact ih1 _ _ _ _ _ _ _ _ _ _ _ _ _ _ _ _ _ _ _ _ _ _)
      | (with_reducible exact ih2 _ _ _ _ _ _ _ _ _ _ _ _ _ _ _ _ _ _ _ _ _ _)
      | (with_reducible exact ih3 _ _ _ _ _ _ _ _ _ _ _ _ _ _ _ _ _ _ _ _ _ _)
      | (with_reducible exact ih4 _ _ _ _ _ _ _ _ _ _ _ _ _ _ _ _ _ _ _ _ _ _)
      | (with_reducible exact legacy_IsSlim.mono _ _ _ _ _ _ _ _)
      | (with_reducible exact zoneinfolaw22_valid.mono _ _ _ _ _ _ _ _)
      | (with_reducible exact zoneinforef19_Equal.mono _ _ _ _ _ _ _ _ _ _ _ _ _ _ _)
      | (with_reducible exact LeO.refl _)
      | (with_reducible exact LeO.none _)
      | (with_reducible refine LeO.ite ?_ ?_)
      | (with_reducible refine LeO.bind ?_ (fun _ => ?_))
      | exact ih0 _ _ _ _ _ _ _ _
      | exact ih1 _ _ _ _ _ _ _ _ _ _ _ _ _ _ _ _ _ _ _ _ _ _
      | exact ih2 _ _ _ _ _ _ _ _ _ _ _ _ _ _ _ _ _ _ _ _ _ _
      | exact ih3 _ _ _ _ _ _ _ _ _ _ _ _ _ _ _ _ _ _ _ _ _ _
      | exact ih4 _ _ _ _ _ _ _ _ _ _ _ _ _ _ _ _ _ _ _ _ _ _
      | exact legacy_IsSlim.mono _ _ _ _ _ _ _ _
      | exact zoneinfolaw22_valid.mono _ _ _ _ _ _ _ _
      | exact zoneinforef19_Equal.mono _ _ _ _ _ _ _ _ _ _ _ _ _ _ _
      | exact LeO.none _
      | refine LeO.ite ?_ ?_
      | refine LeO.bind ?_ (fun _ => ?_)
    · intro y0 y1 y2 y3 y4 y5 y6 y7 y8 y9 y10 y11 y12 y13 y14 y15 y16 y17 y18 y19 y20 y21
      unfold zoneinfolaw22_LegacyDoesNotAlias.l2
      repeat' first
      | (with_reducible exact ih0 _ _ _ _ _ _ _ _)
      | (with_reducible exact ih1 _ _ _ _ _ _ _ _ _ _ _ _ _ _ _ _ _ _ _ _ _ _)
      | (with_reducible exact ih2 _ _ _ _ _ _ _ _ _ _ _ _ _ _ _ _ _ _ _ _ _ _)
      | (with_reducible exact ih3 _ _ _ _ _ _ _ _ _ _ _ _ _ _ _ _ _ _ _ _ _ _)
      | (with_reducible exact ih4 _ _ _ _ _ _ _ _ _ _ _ _ _ _ _ _ _ _ _ _ _ _)
      | (with_reducible exact legacy_IsSlim.mono _ _ _ _ _ _ _ _)
      | (with_reducible exact zoneinfolaw22_valid.mono _ _ _ _ _ _ _ _)
      | (with_reducible exact zoneinforef19_Equal.mono _ _ _ _ _ _ _ _ _ _ _ _ _ _ _)
      | (with_reducible exact LeO.refl _)
      | (with_reducible exact LeO.none _)
      | (with_reducible refine LeO.ite ?_ ?_)
      | (with_reducible refine LeO.bind ?_ (fun _ => ?_))
      | exact ih0 _ _ _ _ _ _ _ _
      | exact ih1 _ _ _ _ _ _ _ _ _ _ _ _ _ _ _ _ _ _ _ _ _ _
      | exact ih2 _ _ _ _ _ _ _ _ _ _ _ _ _ _ _ _ _ _ _ _ _ _
      | exact ih3 _ _ _ _ _ _ _ _ _ _ _ _ _ _ _ _ _ _ _ _ _ _
      | exact ih4 _ _ _ _ _ _ _ _ _ _ _ _ _ _ _ _ _ _ _ _ _ _
      | exact legacy_IsSlim.mono _ _ _ _ _ _ _ _
      | exact zoneinfolaw22_valid.mono _ _ _ _ _ _ _ _
      | exact zoneinforef19_Equal.mono _ _ _ _ _ _ _ _ _ _ _ _ _ _ _
      | exact LeO.none _
      | refine LeO.ite ?_ ?_
      | refine LeO.bind ?_ (fun _ => ?_)
    · intro y0 y1 y2 y3 y4 y5 y6 y7 y8 y9 y10 y11 y12 y13 y14 y15 y16 y17 y18 y19 y20 y21
      unfold zoneinfolaw22_LegacyDoesNotAlias.l3
      repeat' first
      | (with_reducible exact ih0 _ _ _ _ _ _ _ _)
      | (with_reducible exact ih1 _ _ _ _ _ _ _ _ _ _ _ _ _ _ _ _ _ _ _ _ _ _)
      | (with_reducible exact ih2 _ _ _ _ _ _ _ _ _ _ _ _ _ _ _ _ _ _ _ _ _ _)
      | (with_reducible exact ih3 _ _ _ _ _ _ _ _ _ _ _ _ _ _ _ _ _ _ _ _ _ _)
      | (with_reducible exact ih4 _ _ _ _ _ _ _ _ _ _ _ _ _ _ _ _ _ _ _ _ _ _)
      | (with_reducible exact legacy_IsSlim.mono _ _ _ _ _ _ _ _)
      | (with_reducible exact zoneinfolaw22_valid.mono _ _ _ _ _ _ _ _)
      | (with_reducible exact zoneinforef19_Equal.mono _ _ _ _ _ _ _ _ _ _ _ _ _ _ _)
      | (with_reducible exact LeO.refl _)
      | (with_reducible exact LeO.none _)
      | (with_reducible refine LeO.ite ?_ ?_)
      | (with_reducible refine LeO.bind ?_ (fun _ => ?_))
      | exact ih0 _ _ _ _ _ _ _ _
      | exact ih1 _ _ _ _ _ _ _ _ _ _ _ _ _ _ _ _ _ _ _ _ _ _
      | exact ih2 _ _ _ _ _ _ _ _ _ _ _ _ _ _ _ _ _ _ _ _ _ _
      | exact ih3 _ _ _ _ _ _ _ _ _ _ _ _ _ _ _ _ _ _ _ _ _ _
      | exact ih4 _ _ _ _ _ _ _ _ _ _ _ _ _ _ _ _ _ _ _ _ _ _
      | exact legacy_IsSlim.mono _ _ _ _ _ _ _ _
      | exact zoneinfolaw22_valid.mono _ _ _ _ _ _ _ _
      | exact zoneinforef19_Equal.mono _ _ _ _ _ _ _ _ _ _ _ _ _ _ _
      | exact LeO.none _
      | refine LeO.ite ?_ ?_
      | refine LeO.bind ?_ (fun _ => ?_)
theorem zoneinfolaw22_LegacyDoesNotAlias.mono : ∀ a0 a1 a2 a3 a4 a5 a6 k, LeO (zoneinfolaw22_LegacyDoesNotAlias.f k a0 a1 a2 a3 a4 a5 a6) (zoneinfolaw22_LegacyDoesNotAlias.f (k + 1) a0 a1 a2 a3 a4 a5 a6) := by
  intro a0 a1 a2 a3 a4 a5 a6 k; obtain ⟨ih0, ih1, ih2, ih3, ih4⟩ := zoneinfolaw22_LegacyDoesNotAlias.mono_l k
  unfold zoneinfolaw22_LegacyDoesNotAlias.f
  repeat' first
      | (with_reducible exact ih0 _ _ _ _ _ _ _ _)
      | (with_reducible exact ih1 _ _ _ _ _ _ _ _ _ _ _ _ _ _ _ _ _ _ _ _ _ _)
      | (with_reducible exact ih2 _ _ _ _ _ _ _ _ _ _ _ _ _ _ _ _ _ _ _ _ _ _)
      | (with_reducible exact ih3 _ _ _ _ _ _ _ _ _ _ _ _ _ _ _ _ _ _ _ _ _ _)
      | (with_reducible exact ih4 _ _ _ _ _ _ _ _ _ _ _ _ _ _ _ _ _ _ _ _ _ _)
      | (with_reducible exact legacy_IsSlim.mono _ _ _ _ _ _ _ _)
      | (with_reducible exact zoneinfolaw22_valid.mono _ _ _ _ _ _ _ _)
      | (with_reducible exact zoneinforef19_Equal.mono _ _ _ _ _ _ _ _ _ _ _ _ _ _ _)
      | (with_reducible exact LeO.refl _)
      | (with_reducible exact LeO.none _)
      | (with_reducible refine LeO.ite ?_ ?_)
      | (with_reducible refine LeO.bind ?_ (fun _ => ?_))
      | exact ih0 _ _ _ _ _ _ _ _
      | exact ih1 _ _ _ _ _ _ _ _ _ _ _ _ _ _ _ _ _ _ _ _ _ _
      | exact ih2 _ _ _ _ _ _ _ _ _ _ _ _ _ _ _ _ _ _ _ _ _ _
      | exact ih3 _ _ _ _ _ _ _ _ _ _ _ _ _ _ _ _ _ _ _ _ _ _
      | exact ih4 _ _ _ _ _ _ _ _ _ _ _ _ _ _ _ _ _ _ _ _ _ _
      | exact legacy_IsSlim.mono _ _ _ _ _ _ _ _
      | exact zoneinfolaw22_valid.mono _ _ _ _ _ _ _ _
      | exact zoneinforef19_Equal.mono _ _ _ _ _ _ _ _ _ _ _ _ _ _ _
      | exact LeO.none _
      | refine LeO.ite ?_ ?_
      | refine LeO.bind ?_ (fun _ => ?_)
def zoneinfolaw22_LegacyDoesNotAlias.T23 : Bool × List (List Nat × List Nat) := (true, [([], []), ([0], [0]), ([], []), ([], []), ([3], [3]), ([], []), ([4, 5], [4, 5]), ([6], [6]), ([7], [7]), ([1, 2, 0, 1, 2, 3, 4, 5, 6, 7, 8], [1, 2]), ([9, 8, 0, 1, 2, 3, 4, 5, 6, 7, 8], [8, 9])])
def zoneinfolaw22_LegacyDoesNotAlias.B23 : List Nat := [0, 1, 0, 0, 8, 0, 56, 120, 248, 511, 1023]
theorem zoneinfolaw22_LegacyDoesNotAlias.tab23 : rtab .any (opsOf Try.f7 23) = zoneinfolaw22_LegacyDoesNotAlias.T23 := by kernel_rfl
theorem zoneinfolaw22_LegacyDoesNotAlias.bits23 : waitsOk zoneinfolaw22_LegacyDoesNotAlias.T23.2 zoneinfolaw22_LegacyDoesNotAlias.B23 = true := by kernel_rfl
def zoneinfolaw22_LegacyDoesNotAlias.T27 : Bool × List (List Nat × List Nat) := (true, [([], []), ([0], [0]), ([], []), ([1, 2, 1], [1, 2]), ([3, 3], [3]), ([4, 4], [4]), ([5, 5, 4], [4, 5]), ([4, 6], [4, 6]), ([7, 6, 0, 1, 2, 3, 4, 5, 6, 7], [7])])
def zoneinfolaw22_LegacyDoesNotAlias.B27 : List Nat := [0, 1, 0, 7, 15, 31, 63, 127, 255]
theorem zoneinfolaw22_LegacyDoesNotAlias.tab27 : rtab .any (opsOf Try.f7 27) = zoneinfolaw22_LegacyDoesNotAlias.T27 := by kernel_rfl
theorem zoneinfolaw22_LegacyDoesNotAlias.bits27 : waitsOk zoneinfolaw22_LegacyDoesNotAlias.T27.2 zoneinfolaw22_LegacyDoesNotAlias.B27 = true := by kernel_rfl
end Go.Proofs.Ytfomlahadnihhaa.G
