/- Written by a program of this session for this seat: contracts of the functions that its laws reach, or the row of a law over its plain part. -/
import Derived.Test.YtjpgfalejadblaaGx0
import Derived.Test.YtjpgfalejadblaaGx2
import Derived.Test.YtjpgfalejadblaaGx3
import Derived.Test.YtjpgfalejadblaaGx5
import Derived.Test.YtjpgfalejadblaaGx9
import Derived.Test.YtjpgfalejadblaaGx12
import Derived.Test.YtjpgfalejadblaaGx13
import Derived.Test.YtjpgfalejadblaaGx14
import Derived.Test.YtjpgfalejadblaaGx16
import Derived.Test.YtjpgfalejadblaaGx17
import Derived.Test.YtjpgfalejadblaaGx18
namespace Go.Proofs.Ytjpgfalejadblaa.G
open Go.RowKit Go.Proofs.YtjpgfalejadblaaW.PrintWords Go.Proofs.YtjpgfalejadblaaW.PrintLast Go.Proofs.YtjpgfalejadblaaW.PrintMore
attribute [local go_sem] max2_int min2_int max_two min_two max_three min_three max_four min_four   -- for this text's walks alone
set_option linter.unusedVariables false
set_option linter.unusedSimpArgs false

/-! ### zoneinfolaw02_CursorStopsAtFirstError: function 4 -/
mutual
abbrev mk19_0_ : Array Bool := #[false, false, false, false, false, false, false, false, false, false]
abbrev mk19_1_ : Array Bool := #[false, true, false, false, false, false, false, false, false, false]
abbrev mk19_2_ : Array Bool := #[true, true, false, false, false, false, false, false, false, false]
abbrev mk19_3_ : Array Bool := #[true, true, true, true, true, true, true, true, false, false]
abbrev mk19_4_ : Array Bool := #[true, true, true, false, false, false, false, false, false, false]
abbrev mk19_5_ : Array Bool := #[true, true, false, false, false, false, false, true, false, false]
abbrev mk19_6_ : Array Bool := #[true, true, true, true, false, false, false, false, false, false]
abbrev mk19_7_ : Array Bool := #[true, true, true, false, false, false, false, true, false, false]
abbrev mk19_8_ : Array Bool := #[true, true, true, true, true, false, false, false, false, false]
abbrev mk19_9_ : Array Bool := #[true, true, true, true, true, true, false, false, false, false]
abbrev mk19_10_ : Array Bool := #[true, true, true, true, true, true, true, false, false, false]
abbrev mk19_11_ : Array Bool := #[true, true, true, true, false, false, false, true, false, false]
abbrev mk19_12_ : Array Bool := #[true, true, true, true, true, false, false, true, false, false]
abbrev mk19_13_ : Array Bool := #[true, true, true, true, true, true, false, true, false, false]
abbrev mk19_14_ : Array Bool := #[true, true, true, true, true, true, true, true, true, false]
abbrev mk19_15_ : Array Bool := #[true, true, true, true, true, true, true, true, true, true]
def zoneinfolaw02_CursorStopsAtFirstError.j0 : Nat → Int → Int → List Int → Bool → List Int → Int → Int → Int → Option (Bool)
  | 0, _, _, _, _, _, _, _, _ => none
  | k + 1, x1, x2, x3, x28, x357000, x357001, x357002, x357003 => if x28 = true then ((zoneinfolaw02_awake.f k).bind fun t359 => (some t359)) else ((cursor_Take.f x357000 x357001 x357002 x357003 x1).bind fun bt360 => (if bt360.2.2.2.1 = 0 then (if x1 ≥ 0 then (some (bt360.2.2.1 == (wrap64 (x357001 + x1)))) else (none)) else (if x357002 = 0 then (if bt360.2.2.2.1 = 1 then (if bt360.2.2.2.2 = (x357000.length : Int) then (if bt360.2.2.1 = x357001 then (zoneinfolaw02_CursorStopsAtFirstError.j1 k x2 x3 false bt360.2.1 bt360.2.2.1 bt360.2.2.2.1 bt360.2.2.2.2) else (none)) else (none)) else (none)) else ((zoneinforef02_Same.f k x357000 x357001 x357002 x357003 bt360.2.1 bt360.2.2.1 bt360.2.2.2.1 bt360.2.2.2.2).bind fun t370 => (zoneinfolaw02_CursorStopsAtFirstError.j1 k x2 x3 (!t370) bt360.2.1 bt360.2.2.1 bt360.2.2.2.1 bt360.2.2.2.2)))))
def zoneinfolaw02_CursorStopsAtFirstError.j1 : Nat → Int → List Int → Bool → List Int → Int → Int → Int → Option (Bool)
  | 0, _, _, _, _, _, _, _ => none
  | k + 1, x2, x3, x83, x370000, x370001, x370002, x370003 => if x83 = true then (none) else ((cursor_Take.f x370000 x370001 x370002 x370003 0).bind fun bt371 => ((zoneinforef01_Width.f x2).bind fun t381 => ((cursor_Uint.f k x370000 x370001 x370002 x370003 t381).bind fun bt382 => ((zoneinforef01_Width.f x2).bind fun t390 => ((cursor_Int.f k x370000 x370001 x370002 x370003 t390).bind fun bt391 => (if (bt371.1.length : Int) = 0 then ((zoneinforef02_Same.f k bt371.2.1 bt371.2.2.1 bt371.2.2.2.1 bt371.2.2.2.2 x370000 x370001 x370002 x370003).bind fun t399 => (if t399 = true then (if bt382.1 = 0 then ((zoneinforef02_Same.f k bt382.2.1 bt382.2.2.1 bt382.2.2.2.1 bt382.2.2.2.2 x370000 x370001 x370002 x370003).bind fun t400 => (if t400 = true then (if bt391.1 = 0 then ((zoneinforef02_Same.f k bt391.2.1 bt391.2.2.1 bt391.2.2.2.1 bt391.2.2.2.2 x370000 x370001 x370002 x370003).bind fun t401 => (if t401 = true then ((cursor_Expect.f k x370000 x370001 x370002 x370003 x3 3).bind fun bt402 => ((zoneinforef02_Same.f k bt402.1 bt402.2.1 bt402.2.2.1 bt402.2.2.2 x370000 x370001 x370002 x370003).bind fun t408 => (if t408 = true then ((cursor_Fail.f x370000 x370001 x370002 x370003 3 1).bind fun bt409 => ((zoneinforef02_Same.f k bt409.1 bt409.2.1 bt409.2.2.1 bt409.2.2.2 x370000 x370001 x370002 x370003).bind fun t415 => (if t415 = true then ((cursor_Rest.f x370000 x370001 x370002 x370003).bind fun t416 => (some (t416 == 0))) else (none)))) else (none)))) else (none))) else (none)) else (none))) else (none)) else (none))) else (none)))))))
end
def zoneinfolaw02_CursorStopsAtFirstError.f (k : Nat) (l0_0 : List Int) (a0_1 : Int) (a0_2 : Int) (a0_3 : Int) (a1 : Int) (a2 : Int) (l3 : List Int) : Option (Bool) := (zoneinfolaw02_awake.f k).bind fun t357 => (if t357 = true then ((zoneinforef02_Valid.f l0_0 a0_1 a0_2 a0_3).bind fun t358 => (if t358 = true then (zoneinfolaw02_CursorStopsAtFirstError.j0 k a1 a2 l3 (decide ((l3.length : Int) > 2000)) l0_0 a0_1 a0_2 a0_3) else (zoneinfolaw02_CursorStopsAtFirstError.j0 k a1 a2 l3 true l0_0 a0_1 a0_2 a0_3))) else (zoneinfolaw02_CursorStopsAtFirstError.j0 k a1 a2 l3 true l0_0 a0_1 a0_2 a0_3))
theorem zoneinfolaw02_CursorStopsAtFirstError.mono_l : ∀ k, (∀ y0 y1 y2 y3 y4 y5 y6 y7, LeO (zoneinfolaw02_CursorStopsAtFirstError.j0 k y0 y1 y2 y3 y4 y5 y6 y7) (zoneinfolaw02_CursorStopsAtFirstError.j0 (k + 1) y0 y1 y2 y3 y4 y5 y6 y7)) ∧ (∀ y0 y1 y2 y3 y4 y5 y6, LeO (zoneinfolaw02_CursorStopsAtFirstError.j1 k y0 y1 y2 y3 y4 y5 y6) (zoneinfolaw02_CursorStopsAtFirstError.j1 (k + 1) y0 y1 y2 y3 y4 y5 y6))
  | 0 => ⟨fun _ _ _ _ _ _ _ _ r h => by simp [zoneinfolaw02_CursorStopsAtFirstError.j0] at h, fun _ _ _ _ _ _ _ r h => by simp [zoneinfolaw02_CursorStopsAtFirstError.j1] at h⟩
  | k + 1 => by
    obtain ⟨ih0, ih1⟩ := zoneinfolaw02_CursorStopsAtFirstError.mono_l k; refine ⟨?_, ?_⟩
    · intro y0 y1 y2 y3 y4 y5 y6 y7
      unfold zoneinfolaw02_CursorStopsAtFirstError.j0
      repeat' first
      | (with_reducible exact ih0 _ _ _ _ _ _ _ _)
      | (with_reducible exact ih1 _ _ _ _ _ _ _)
      | (with_reducible exact cursor_Expect.mono _ _ _ _ _ _ _)
      | (with_reducible exact cursor_Int.mono _ _ _ _ _ _)
      | (with_reducible exact cursor_Uint.mono _ _ _ _ _ _)
      | (with_reducible exact zoneinfolaw02_awake.mono _)
      | (with_reducible exact zoneinforef02_Same.mono _ _ _ _ _ _ _ _ _)
      | (with_reducible exact LeO.refl _)
      | (with_reducible exact LeO.none _)
      | (with_reducible refine LeO.ite ?_ ?_)
      | (with_reducible refine LeO.bind ?_ (fun _ => ?_))
      | exact ih0 _ _ _ _ _ _ _ _
      | exact ih1 _ _ _ _ _ _ _
      | exact cursor_Expect.mono _ _ _ _ _ _ _
      | exact cursor_Int.mono _ _ _ _ _ _
      | exact cursor_Uint.mono _ _ _ _ _ _
      | exact zoneinfolaw02_awake.mono _
      | exact zoneinforef02_Same.mono _ _ _ _ _ _ _ _ _
      | exact LeO.none _
      | refine LeO.ite ?_ ?_
      | refine LeO.bind ?_ (fun _ => ?_)
    · intro y0 y1 y2 y3 y4 y5 y6
      unfold zoneinfolaw02_CursorStopsAtFirstError.j1
      repeat' first
      | (with_reducible exact ih0 _ _ _ _ _ _ _ _)
      | (with_reducible exact ih1 _ _ _ _ _ _ _)
      | (with_reducible exact cursor_Expect.mono _ _ _ _ _ _ _)
      | (with_reducible exact cursor_Int.mono _ _ _ _ _ _)
      | (with_reducible exact cursor_Uint.mono _ _ _ _ _ _)
      | (with_reducible exact zoneinfolaw02_awake.mono _)
      | (with_reducible exact zoneinforef02_Same.mono _ _ _ _ _ _ _ _ _)
      | (with_reducible exact LeO.refl _)
      | (with_reducible exact LeO.none _)
      | (with_reducible refine LeO.ite ?_ ?_)
      | (with_reducible refine LeO.bind ?_ (fun _ => ?_))
      | exact ih0 _ _ _ _ _ _ _ _
      | exact ih1 _ _ _ _ _ _ _
      | exact cursor_Expect.mono _ _ _ _ _ _ _
      | exact cursor_Int.mono _ _ _ _ _ _
      | exact cursor_Uint.mono _ _ _ _ _ _
      | exact zoneinfolaw02_awake.mono _
      | exact zoneinforef02_Same.mono _ _ _ _ _ _ _ _ _
      | exact LeO.none _
      | refine LeO.ite ?_ ?_
      | refine LeO.bind ?_ (fun _ => ?_)
theorem zoneinfolaw02_CursorStopsAtFirstError.mono : ∀ a0 a1 a2 a3 a4 a5 a6 k, LeO (zoneinfolaw02_CursorStopsAtFirstError.f k a0 a1 a2 a3 a4 a5 a6) (zoneinfolaw02_CursorStopsAtFirstError.f (k + 1) a0 a1 a2 a3 a4 a5 a6) := by
  intro a0 a1 a2 a3 a4 a5 a6 k; obtain ⟨ih0, ih1⟩ := zoneinfolaw02_CursorStopsAtFirstError.mono_l k
  unfold zoneinfolaw02_CursorStopsAtFirstError.f
  repeat' first
      | (with_reducible exact ih0 _ _ _ _ _ _ _ _)
      | (with_reducible exact ih1 _ _ _ _ _ _ _)
      | (with_reducible exact cursor_Expect.mono _ _ _ _ _ _ _)
      | (with_reducible exact cursor_Int.mono _ _ _ _ _ _)
      | (with_reducible exact cursor_Uint.mono _ _ _ _ _ _)
      | (with_reducible exact zoneinfolaw02_awake.mono _)
      | (with_reducible exact zoneinforef02_Same.mono _ _ _ _ _ _ _ _ _)
      | (with_reducible exact LeO.refl _)
      | (with_reducible exact LeO.none _)
      | (with_reducible refine LeO.ite ?_ ?_)
      | (with_reducible refine LeO.bind ?_ (fun _ => ?_))
      | exact ih0 _ _ _ _ _ _ _ _
      | exact ih1 _ _ _ _ _ _ _
      | exact cursor_Expect.mono _ _ _ _ _ _ _
      | exact cursor_Int.mono _ _ _ _ _ _
      | exact cursor_Uint.mono _ _ _ _ _ _
      | exact zoneinfolaw02_awake.mono _
      | exact zoneinforef02_Same.mono _ _ _ _ _ _ _ _ _
      | exact LeO.none _
      | refine LeO.ite ?_ ?_
      | refine LeO.bind ?_ (fun _ => ?_)
def zoneinfolaw02_CursorStopsAtFirstError.T9 : Bool × List (List Nat × List Nat) := (true, [([], []), ([], []), ([1], [1]), ([0, 2, 2], [0, 2]), ([3], [3]), ([4], [4]), ([4], [4]), ([], []), ([5, 3, 0, 1, 2, 3, 4, 5, 7], [5]), ([7, 6, 8, 0, 1, 2, 3, 4, 5, 6, 7, 8], [6, 7])])
def zoneinfolaw02_CursorStopsAtFirstError.B9 : List Nat := [0, 0, 2, 7, 15, 31, 31, 0, 191, 511]
theorem zoneinfolaw02_CursorStopsAtFirstError.tab9 : rtab .any (opsOf Try.f4 9) = zoneinfolaw02_CursorStopsAtFirstError.T9 := by kernel_rfl
theorem zoneinfolaw02_CursorStopsAtFirstError.bits9 : waitsOk zoneinfolaw02_CursorStopsAtFirstError.T9.2 zoneinfolaw02_CursorStopsAtFirstError.B9 = true := by kernel_rfl
def zoneinfolaw02_CursorStopsAtFirstError.T10 : Bool × List (List Nat × List Nat) := (true, [([], []), ([], []), ([1], [1]), ([0, 2, 2], [0, 2]), ([3], [3]), ([4], [4]), ([4], [4]), ([], []), ([5, 3, 0, 1, 2, 3, 4, 5, 7], [5]), ([7, 6, 8, 0, 1, 2, 3, 4, 5, 6, 7, 8], [6, 7])])
def zoneinfolaw02_CursorStopsAtFirstError.B10 : List Nat := [0, 0, 2, 7, 15, 31, 31, 0, 191, 511]
theorem zoneinfolaw02_CursorStopsAtFirstError.tab10 : rtab .any (opsOf Try.f4 10) = zoneinfolaw02_CursorStopsAtFirstError.T10 := by kernel_rfl
theorem zoneinfolaw02_CursorStopsAtFirstError.bits10 : waitsOk zoneinfolaw02_CursorStopsAtFirstError.T10.2 zoneinfolaw02_CursorStopsAtFirstError.B10 = true := by kernel_rfl
def zoneinfolaw02_CursorStopsAtFirstError.T11 : Bool × List (List Nat × List Nat) := (true, [([], []), ([0], [0]), ([1], [1]), ([2], [2]), ([3], [3]), ([3], [3]), ([4, 5, 3, 3], [3, 4, 5]), ([3, 6], [3, 6]), ([7, 6], [7]), ([8], [8]), ([9, 8], [8, 9]), ([8, 10], [8, 10]), ([11, 8], [11]), ([12], [12]), ([12], [12]), ([13, 14, 12, 12], [12, 13, 14]), ([12, 15], [12, 15]), ([16, 15], [16]), ([17], [17]), ([18, 17], [17, 18]), ([17, 19], [17, 19]), ([20, 17], [20]), ([21], [21]), ([21], [21]), ([22, 23, 21, 21], [21, 22, 23]), ([21, 24], [21, 24]), ([25, 24], [25]), ([26], [26]), ([26], [26]), ([27, 28, 26, 26], [26, 27, 28]), ([26], [26]), ([29, 30, 29, 26], [26, 29, 30]), ([26, 31], [26, 31]), ([32, 31], [32]), ([33], [33]), ([34, 33, 33], [33, 34]), ([33], [33]), ([35, 36, 35, 33], [33, 35, 36]), ([33, 37], [33, 37]), ([38, 37], [38]), ([39], [39]), ([40, 39, 39], [39, 40]), ([41, 39], [39, 41]), ([39, 42], [39, 42]), ([43, 41, 0, 1, 2, 3, 4, 5, 6, 7, 8, 9, 10, 11, 12, 13, 14, 15, 16, 17, 18, 19, 20, 21, 22, 23, 24, 25, 26, 27, 28, 29, 30, 31, 32, 33, 34, 35, 36, 37, 38, 39, 40, 41, 42, 43], [43])])
def zoneinfolaw02_CursorStopsAtFirstError.B11 : List Nat := [0, 1, 3, 7, 15, 15, 63, 127, 255, 511, 1023, 2047, 4095, 8191, 8191, 32767, 65535, 131071, 262143, 524287, 1048575, 2097151, 4194303, 4194303, 16777215, 33554431, 67108863, 134217727, 134217727, 536870911, 134217727, 2147483647, 4294967295, 8589934591, 17179869183, 34359738367, 17179869183, 137438953471, 274877906943, 549755813887, 1099511627775, 2199023255551, 4398046511103, 8796093022207, 17592186044415]
theorem zoneinfolaw02_CursorStopsAtFirstError.tab11 : rtab .any (opsOf Try.f4 11) = zoneinfolaw02_CursorStopsAtFirstError.T11 := by kernel_rfl
theorem zoneinfolaw02_CursorStopsAtFirstError.bits11 : waitsOk zoneinfolaw02_CursorStopsAtFirstError.T11.2 zoneinfolaw02_CursorStopsAtFirstError.B11 = true := by kernel_rfl
end Go.Proofs.Ytjpgfalejadblaa.G
