/- Written by a program of this session for this seat: contracts of the functions that its laws reach, or the row of a law over its plain part. -/
import Derived.Test.YtmfffkmnddeajaaDoorGx0
import Derived.Test.YtmfffkmnddeajaaDoorGx1
import Derived.Test.YtmfffkmnddeajaaDoorGx2
import Derived.Test.YtmfffkmnddeajaaDoorGx3
import Derived.Test.YtmfffkmnddeajaaDoorGx4
namespace Go.Proofs.YtmfffkmnddeajaaDoor.G
open Go.RowKit Go.Proofs.YtmfffkmnddeajaaDoorW.PrintWords Go.Proofs.YtmfffkmnddeajaaDoorW.PrintLast Go.Proofs.YtmfffkmnddeajaaDoorW.PrintMore
attribute [local go_sem] max2_int min2_int max_two min_two max_three min_three max_four min_four   -- for this text's walks alone
set_option linter.unusedVariables false
set_option linter.unusedSimpArgs false

attribute [local go_sem high] eqA23
/-! ### zoneinfolaw05_awake: function 8 -/
mutual
def zoneinfolaw05_awake.j0 : Nat → Int → Bool → Int → Int → Int → Int → Int → Int → Int → Option (Bool)
  | 0, _, _, _, _, _, _, _, _, _ => none
  | k + 1, x2, x3, x134000, x134001, x134002, x134003, x134004, x134005, x134006 => zoneinfolaw05_awake.j1 k x2 x3 x134000 x134001 x134002 x134003 x134004 x134005 x134006 x134000 x134001 x134002 x134003 x134004 x134005 4
def zoneinfolaw05_awake.j1 : Nat → Int → Bool → Int → Int → Int → Int → Int → Int → Int → Int → Int → Int → Int → Int → Int → Int → Option (Bool)
  | 0, _, _, _, _, _, _, _, _, _, _, _, _, _, _, _, _ => none
  | k + 1, x2, x3, x134000, x134001, x134002, x134003, x134004, x134005, x134006, x137000, x137001, x137002, x137003, x137004, x137005, x137006 => (datetime_Unix.f k x137000 x137001 x137002 x137003 x137004 x137005 x137006).bind fun bt137 => (zoneinfolaw05_awake.j2 k x2 x3 bt137.2 x134000 x134001 x134002 x134003 x134004 x134005 x134006)
def zoneinfolaw05_awake.j2 : Nat → Int → Bool → Bool → Int → Int → Int → Int → Int → Int → Int → Option (Bool)
  | 0, _, _, _, _, _, _, _, _, _, _ => none
  | k + 1, x2, x3, x6, x134000, x134001, x134002, x134003, x134004, x134005, x134006 => (datetime_Unix.f k 1099511627776 1 1 0 0 0 0).bind fun bt139 => (zoneinfolaw05_awake.j3 k x2 x3 x6 bt139.2 x134000 x134001 x134002 x134003 x134004 x134005 x134006)
def zoneinfolaw05_awake.j3 : Nat → Int → Bool → Bool → Bool → Int → Int → Int → Int → Int → Int → Int → Option (Bool)
  | 0, _, _, _, _, _, _, _, _, _, _, _ => none
  | k + 1, x2, x3, x6, x8, x134000, x134001, x134002, x134003, x134004, x134005, x134006 => (datetime_Split.f (-1)).bind fun bt141 => ((datetime_Split.f (-9223372036854775808)).bind fun bt143 => (zoneinfolaw05_awake.j4 k x2 x3 x6 x8 bt141.1 bt141.2 bt143.1 bt143.2 x134000 x134001 x134002 x134003 x134004 x134005 x134006))
def zoneinfolaw05_awake.j4 : Nat → Int → Bool → Bool → Bool → Int → Int → Int → Int → Int → Int → Int → Int → Int → Int → Int → Option (Bool)
  | 0, _, _, _, _, _, _, _, _, _, _, _, _, _, _, _ => none
  | k + 1, x2, x3, x6, x8, x9, x10, x11, x12, x134000, x134001, x134002, x134003, x134004, x134005, x134006 => (datetime_Of.f (-1)).bind fun bt145 => (if (bt145.1 == x134000 && (bt145.2.1 == x134001 && (bt145.2.2.1 == x134002 && (bt145.2.2.2.1 == x134003 && (bt145.2.2.2.2.1 == x134004 && (bt145.2.2.2.2.2.1 == x134005 && (bt145.2.2.2.2.2.2 == x134006))))))) = true then (if x2 = (-1) then (if x3 = true then (if x6 = true then (none) else (if x8 = true then (none) else (if x9 = (-1) then (if x10 = 86399 then (if x11 = (-106751991167301) then (if x12 = 30592 then ((datetime_YearOf.f 0).bind fun t152 => (if t152 = 1970 then ((datetime_YearOf.f 9223372036854775807).bind fun t153 => (if t153 = 292277026596 then ((datetime_YearOf.f (-9223372036854775808)).bind fun t154 => (some (t154 == (-292277022657)))) else (none))) else (none))) else (none)) else (none)) else (none)) else (none)))) else (none)) else (none)) else (none))
end
def zoneinfolaw05_awake.f (k : Nat)  : Option (Bool) := (datetime_Unix.f k 1969 12 31 23 59 59 3).bind fun bt134 => (zoneinfolaw05_awake.j0 k bt134.1 bt134.2 1969 12 31 23 59 59 3)
theorem zoneinfolaw05_awake.mono_l : ∀ k, (∀ y0 y1 y2 y3 y4 y5 y6 y7 y8, LeO (zoneinfolaw05_awake.j0 k y0 y1 y2 y3 y4 y5 y6 y7 y8) (zoneinfolaw05_awake.j0 (k + 1) y0 y1 y2 y3 y4 y5 y6 y7 y8)) ∧ (∀ y0 y1 y2 y3 y4 y5 y6 y7 y8 y9 y10 y11 y12 y13 y14 y15, LeO (zoneinfolaw05_awake.j1 k y0 y1 y2 y3 y4 y5 y6 y7 y8 y9 y10 y11 y12 y13 y14 y15) (zoneinfolaw05_awake.j1 (k + 1) y0 y1 y2 y3 y4 y5 y6 y7 y8 y9 y10 y11 y12 y13 y14 y15)) ∧ (∀ y0 y1 y2 y3 y4 y5 y6 y7 y8 y9, LeO (zoneinfolaw05_awake.j2 k y0 y1 y2 y3 y4 y5 y6 y7 y8 y9) (zoneinfolaw05_awake.j2 (k + 1) y0 y1 y2 y3 y4 y5 y6 y7 y8 y9)) ∧ (∀ y0 y1 y2 y3 y4 y5 y6 y7 y8 y9 y10, LeO (zoneinfolaw05_awake.j3 k y0 y1 y2 y3 y4 y5 y6 y7 y8 y9 y10) (zoneinfolaw05_awake.j3 (k + 1) y0 y1 y2 y3 y4 y5 y6 y7 y8 y9 y10)) ∧ (∀ y0 y1 y2 y3 y4 y5 y6 y7 y8 y9 y10 y11 y12 y13 y14, LeO (zoneinfolaw05_awake.j4 k y0 y1 y2 y3 y4 y5 y6 y7 y8 y9 y10 y11 y12 y13 y14) (zoneinfolaw05_awake.j4 (k + 1) y0 y1 y2 y3 y4 y5 y6 y7 y8 y9 y10 y11 y12 y13 y14))
  | 0 => ⟨fun _ _ _ _ _ _ _ _ _ r h => by simp [zoneinfolaw05_awake.j0] at h, fun _ _ _ _ _ _ _ _ _ _ _ _ _ _ _ _ r h => by simp [zoneinfolaw05_awake.j1] at h, fun _ _ _ _ _ _ _ _ _ _ r h => by simp [zoneinfolaw05_awake.j2] at h, fun _ _ _ _ _ _ _ _ _ _ _ r h => by simp [zoneinfolaw05_awake.j3] at h, fun _ _ _ _ _ _ _ _ _ _ _ _ _ _ _ r h => by simp [zoneinfolaw05_awake.j4] at h⟩
  | k + 1 => by
    obtain ⟨ih0, ih1, ih2, ih3, ih4⟩ := zoneinfolaw05_awake.mono_l k
    refine ⟨?_, ?_, ?_, ?_, ?_⟩
    · intro y0 y1 y2 y3 y4 y5 y6 y7 y8
      unfold zoneinfolaw05_awake.j0
      repeat' first
      | (with_reducible exact ih0 _ _ _ _ _ _ _ _ _)
      | (with_reducible exact ih1 _ _ _ _ _ _ _ _ _ _ _ _ _ _ _ _)
      | (with_reducible exact ih2 _ _ _ _ _ _ _ _ _ _)
      | (with_reducible exact ih3 _ _ _ _ _ _ _ _ _ _ _)
      | (with_reducible exact ih4 _ _ _ _ _ _ _ _ _ _ _ _ _ _ _)
      | (with_reducible exact datetime_Unix.mono _ _ _ _ _ _ _ _)
      | (with_reducible exact LeO.refl _)
      | (with_reducible exact LeO.none _)
      | (with_reducible refine LeO.ite ?_ ?_)
      | (with_reducible refine LeO.bind ?_ (fun _ => ?_))
      | exact ih0 _ _ _ _ _ _ _ _ _
      | exact ih1 _ _ _ _ _ _ _ _ _ _ _ _ _ _ _ _
      | exact ih2 _ _ _ _ _ _ _ _ _ _
      | exact ih3 _ _ _ _ _ _ _ _ _ _ _
      | exact ih4 _ _ _ _ _ _ _ _ _ _ _ _ _ _ _
      | exact datetime_Unix.mono _ _ _ _ _ _ _ _
      | exact LeO.none _
      | refine LeO.ite ?_ ?_
      | refine LeO.bind ?_ (fun _ => ?_)
    · intro y0 y1 y2 y3 y4 y5 y6 y7 y8 y9 y10 y11 y12 y13 y14 y15
      unfold zoneinfolaw05_awake.j1
      repeat' first
      | (with_reducible exact ih0 _ _ _ _ _ _ _ _ _)
      | (with_reducible exact ih1 _ _ _ _ _ _ _ _ _ _ _ _ _ _ _ _)
      | (with_reducible exact ih2 _ _ _ _ _ _ _ _ _ _)
      | (with_reducible exact ih3 _ _ _ _ _ _ _ _ _ _ _)
      | (with_reducible exact ih4 _ _ _ _ _ _ _ _ _ _ _ _ _ _ _)
      | (with_reducible exact datetime_Unix.mono _ _ _ _ _ _ _ _)
      | (with_reducible exact LeO.refl _)
      | (with_reducible exact LeO.none _)
      | (with_reducible refine LeO.ite ?_ ?_)
      | (with_reducible refine LeO.bind ?_ (fun _ => ?_))
      | exact ih0 _ _ _ _ _ _ _ _ _
      | exact ih1 _ _ _ _ _ _ _ _ _ _ _ _ _ _ _ _
      | exact ih2 _ _ _ _ _ _ _ _ _ _
      | exact ih3 _ _ _ _ _ _ _ _ _ _ _
      | exact ih4 _ _ _ _ _ _ _ _ _ _ _ _ _ _ _
      | exact datetime_Unix.mono _ _ _ _ _ _ _ _
      | exact LeO.none _
      | refine LeO.ite ?_ ?_
      | refine LeO.bind ?_ (fun _ => ?_)
    · intro y0 y1 y2 y3 y4 y5 y6 y7 y8 y9
      unfold zoneinfolaw05_awake.j2
      repeat' first
      | (with_reducible exact ih0 _ _ _ _ _ _ _ _ _)
      | (with_reducible exact ih1 _ _ _ _ _ _ _ _ _ _ _ _ _ _ _ _)
      | (with_reducible exact ih2 _ _ _ _ _ _ _ _ _ _)
      | (with_reducible exact ih3 _ _ _ _ _ _ _ _ _ _ _)
      | (with_reducible exact ih4 _ _ _ _ _ _ _ _ _ _ _ _ _ _ _)
      | (with_reducible exact datetime_Unix.mono _ _ _ _ _ _ _ _)
      | (with_reducible exact LeO.refl _)
      | (with_reducible exact LeO.none _)
      | (with_reducible refine LeO.ite ?_ ?_)
      | (with_reducible refine LeO.bind ?_ (fun _ => ?_))
      | exact ih0 _ _ _ _ _ _ _ _ _
      | exact ih1 _ _ _ _ _ _ _ _ _ _ _ _ _ _ _ _
      | exact ih2 _ _ _ _ _ _ _ _ _ _
      | exact ih3 _ _ _ _ _ _ _ _ _ _ _
      | exact ih4 _ _ _ _ _ _ _ _ _ _ _ _ _ _ _
      | exact datetime_Unix.mono _ _ _ _ _ _ _ _
      | exact LeO.none _
      | refine LeO.ite ?_ ?_
      | refine LeO.bind ?_ (fun _ => ?_)
    · intro y0 y1 y2 y3 y4 y5 y6 y7 y8 y9 y10
      unfold zoneinfolaw05_awake.j3
      repeat' first
      | (with_reducible exact ih0 _ _ _ _ _ _ _ _ _)
      | (with_reducible exact ih1 _ _ _ _ _ _ _ _ _ _ _ _ _ _ _ _)
      | (with_reducible exact ih2 _ _ _ _ _ _ _ _ _ _)
      | (with_reducible exact ih3 _ _ _ _ _ _ _ _ _ _ _)
      | (with_reducible exact ih4 _ _ _ _ _ _ _ _ _ _ _ _ _ _ _)
      | (with_reducible exact datetime_Unix.mono _ _ _ _ _ _ _ _)
      | (with_reducible exact LeO.refl _)
      | (with_reducible exact LeO.none _)
      | (with_reducible refine LeO.ite ?_ ?_)
      | (with_reducible refine LeO.bind ?_ (fun _ => ?_))
      | exact ih0 _ _ _ _ _ _ _ _ _
      | exact ih1 _ _ _ _ _ _ _ _ _ _ _ _ _ _ _ _
      | exact ih2 _ _ _ _ _ _ _ _ _ _
      | exact ih3 _ _ _ _ _ _ _ _ _ _ _
      | exact ih4 _ _ _ _ _ _ _ _ _ _ _ _ _ _ _
      | exact datetime_Unix.mono _ _ _ _ _ _ _ _
      | exact LeO.none _
      | refine LeO.ite ?_ ?_
      | refine LeO.bind ?_ (fun _ => ?_)
    · intro y0 y1 y2 y3 y4 y5 y6 y7 y8 y9 y10 y11 y12 y13 y14
      unfold zoneinfolaw05_awake.j4
      repeat' first
      | (with_reducible exact ih0 _ _ _ _ _ _ _ _ _)
      | (with_reducible exact ih1 _ _ _ _ _ _ _ _ _ _ _ _ _ _ _ _)
      | (with_reducible exact ih2 _ _ _ _ _ _ _ _ _ _)
      | (with_reducible exact ih3 _ _ _ _ _ _ _ _ _ _ _)
      | (with_reducible exact ih4 _ _ _ _ _ _ _ _ _ _ _ _ _ _ _)
      | (with_reducible exact datetime_Unix.mono _ _ _ _ _ _ _ _)
      | (with_reducible exact LeO.refl _)
      | (with_reducible exact LeO.none _)
      | (with_reducible refine LeO.ite ?_ ?_)
      | (with_reducible refine LeO.bind ?_ (fun _ => ?_))
      | exact ih0 _ _ _ _ _ _ _ _ _
      | exact ih1 _ _ _ _ _ _ _ _ _ _ _ _ _ _ _ _
      | exact ih2 _ _ _ _ _ _ _ _ _ _
      | exact ih3 _ _ _ _ _ _ _ _ _ _ _
      | exact ih4 _ _ _ _ _ _ _ _ _ _ _ _ _ _ _
      | exact datetime_Unix.mono _ _ _ _ _ _ _ _
      | exact LeO.none _
      | refine LeO.ite ?_ ?_
      | refine LeO.bind ?_ (fun _ => ?_)
theorem zoneinfolaw05_awake.mono : ∀ k, LeO (zoneinfolaw05_awake.f k ) (zoneinfolaw05_awake.f (k + 1) ) := by
  intro  k
  obtain ⟨ih0, ih1, ih2, ih3, ih4⟩ := zoneinfolaw05_awake.mono_l k
  unfold zoneinfolaw05_awake.f
  repeat' first
      | (with_reducible exact ih0 _ _ _ _ _ _ _ _ _)
      | (with_reducible exact ih1 _ _ _ _ _ _ _ _ _ _ _ _ _ _ _ _)
      | (with_reducible exact ih2 _ _ _ _ _ _ _ _ _ _)
      | (with_reducible exact ih3 _ _ _ _ _ _ _ _ _ _ _)
      | (with_reducible exact ih4 _ _ _ _ _ _ _ _ _ _ _ _ _ _ _)
      | (with_reducible exact datetime_Unix.mono _ _ _ _ _ _ _ _)
      | (with_reducible exact LeO.refl _)
      | (with_reducible exact LeO.none _)
      | (with_reducible refine LeO.ite ?_ ?_)
      | (with_reducible refine LeO.bind ?_ (fun _ => ?_))
      | exact ih0 _ _ _ _ _ _ _ _ _
      | exact ih1 _ _ _ _ _ _ _ _ _ _ _ _ _ _ _ _
      | exact ih2 _ _ _ _ _ _ _ _ _ _
      | exact ih3 _ _ _ _ _ _ _ _ _ _ _
      | exact ih4 _ _ _ _ _ _ _ _ _ _ _ _ _ _ _
      | exact datetime_Unix.mono _ _ _ _ _ _ _ _
      | exact LeO.none _
      | refine LeO.ite ?_ ?_
      | refine LeO.bind ?_ (fun _ => ?_)
def zoneinfolaw05_awake.T9 : Bool × List (List Nat × List Nat) := (true, [([], []), ([], []), ([0, 1], [0, 1]), ([2, 0], [2]), ([3], [3]), ([4, 3], [3, 4]), ([3, 5], [3, 5]), ([6, 3], [6]), ([7], [7]), ([7, 8], [7, 8]), ([9, 7], [9]), ([10], [10]), ([11, 10], [10, 11]), ([10, 12], [10, 12]), ([13, 10], [13]), ([14], [14]), ([15, 14], [14, 15]), ([14, 16], [14, 16]), ([17, 14], [17]), ([18], [18]), ([19, 18], [18, 19]), ([18, 20], [18, 20]), ([21, 18], [21]), ([22], [22]), ([23, 22], [22, 23]), ([22, 24], [22, 24]), ([25, 22], [25]), ([26], [26]), ([27, 26], [26, 27]), ([26, 28], [26, 28]), ([29, 26], [29]), ([30], [30]), ([31, 30], [30, 31]), ([30, 32], [30, 32]), ([33, 30], [33]), ([34, 34], [34]), ([35, 34], [34, 35]), ([34, 36], [34, 36]), ([37, 35], [37]), ([38, 38], [38]), ([39, 38], [38, 39]), ([38, 40], [38, 40]), ([41, 39], [41]), ([42, 42], [42]), ([43, 42], [42, 43]), ([42, 44], [42, 44]), ([45, 43, 0, 1, 2, 3, 4, 5, 6, 7, 8, 9, 10, 11, 12, 13, 14, 15, 16, 17, 18, 19, 20, 21, 22, 23, 24, 25, 26, 27, 28, 29, 30, 31, 32, 33, 34, 35, 36, 37, 38, 39, 40, 41, 42, 43, 44, 45], [45])])
def zoneinfolaw05_awake.B9 : List Nat := [0, 0, 3, 7, 15, 31, 63, 127, 255, 511, 1023, 2047, 4095, 8191, 16383, 32767, 65535, 131071, 262143, 524287, 1048575, 2097151, 4194303, 8388607, 16777215, 33554431, 67108863, 134217727, 268435455, 536870911, 1073741823, 2147483647, 4294967295, 8589934591, 17179869183, 34359738367, 68719476735, 137438953471, 274877906943, 549755813887, 1099511627775, 2199023255551, 4398046511103, 8796093022207, 17592186044415, 35184372088831, 70368744177663]
theorem zoneinfolaw05_awake.tab9 : rtab .any (opsOf Tryd.f8 9) = zoneinfolaw05_awake.T9 := by kernel_rfl
theorem zoneinfolaw05_awake.bits9 : waitsOk zoneinfolaw05_awake.T9.2 zoneinfolaw05_awake.B9 = true := by kernel_rfl
set_option maxHeartbeats 8000000 in
set_option maxRecDepth 100000 in
theorem zoneinfolaw05_awake.calls (k : Nat)  (r : Bool) (w : World) (hrg : GL w) (h : zoneinfolaw05_awake.f k  = some r) :
    Calls Tryd.prog 8 #[] w fun e w' => e = .returned (.bool r) ∧ Below w.heap.size w w' := by
  have hu23 := Tryd.underlying23
  have HRg := Aside0.mk hrg
  clear hrg
  have HB := Aside0.mk (Below.refl w.heap.size w)
  have H : ((datetime_Unix.f k 1969 12 31 23 59 59 3).bind fun bt134 => (zoneinfolaw05_awake.j0 k bt134.1 bt134.2 1969 12 31 23 59 59 3)) = some r := h
  clear h
  have HC1 := Aside0.mk H
  clear H
  go_enter Tryd.func8, Tryd.ntmps8
  go_upto_region 2 with (first | ((with_reducible refine gate_dst (N := 1) rfl ?_); refine box_event ?hg (N := 1) ?hd (cs := #[.int .i64 0, .int .i64 0, .int .i64 0, .int .i64 0, .int .i64 0, .int .i64 0, .int .i64 0]) (t := 23) ?hr ?_; (case hd => rfl); (case hg => rfl); (case hr => first | (go_simp; done) | (go_simp; rfl)); intro gb133 hg w2 hbox hb; have n0_ := Aside0.mk (below_step (by repeat (first | (with_reducible first | exact HB.out | apply below_alloc | apply pw_below_drewN | apply below_drew1) | exact HB.out)) hb); have n1_ := Aside0.mk (hbox); have n2_ := Aside0.mk ((by rw [hg]; exact (below_size (by repeat (first | (with_reducible first | exact HB.out | apply below_alloc | apply pw_below_drewN | apply below_drew1) | exact HB.out))) : w.heap.size ≤ gb133)); have n3_ := Aside0.mk ((by rw [hg]; exact (below_size (by repeat (first | (with_reducible first | exact HB.out | apply below_alloc | apply pw_below_drewN | apply below_drew1) | exact HB.out))) : w.heap.size ≤ gb133)); clear HB; have HB := n0_; have BK133 := n1_; have GW133 := n2_; have GE133 := n3_; clear n0_ n1_ n2_ n3_; clear hb hbox hg; have hcz3_0 : w2.cell? ⟨gb133, 0, none⟩ = some (.int .i64 0) := (blk_cell BK133.out 0).trans rfl; have hcz3_1 : w2.cell? ⟨gb133, 1, none⟩ = some (.int .i64 0) := (blk_cell BK133.out 1).trans rfl; have hcz3_2 : w2.cell? ⟨gb133, 2, none⟩ = some (.int .i64 0) := (blk_cell BK133.out 2).trans rfl; have hcz3_3 : w2.cell? ⟨gb133, 3, none⟩ = some (.int .i64 0) := (blk_cell BK133.out 3).trans rfl; have hcz3_4 : w2.cell? ⟨gb133, 4, none⟩ = some (.int .i64 0) := (blk_cell BK133.out 4).trans rfl; have hcz3_5 : w2.cell? ⟨gb133, 5, none⟩ = some (.int .i64 0) := (blk_cell BK133.out 5).trans rfl; have hcz3_6 : w2.cell? ⟨gb133, 6, none⟩ = some (.int .i64 0) := (blk_cell BK133.out 6).trans rfl; have hfz3_0 := blk_frozen BK133.out 0; have hfz3_1 := blk_frozen BK133.out 1; have hfz3_2 := blk_frozen BK133.out 2; have hfz3_3 := blk_frozen BK133.out 3; have hfz3_4 := blk_frozen BK133.out 4; have hfz3_5 := blk_frozen BK133.out 5; have hfz3_6 := blk_frozen BK133.out 6))
  (try simp only [Act.put, List.setIfInBounds_toArray, List.set_cons_zero, List.set_cons_succ])
  go_cut [2, 3] (fun v2 v3 wc => ∃ (kq : Nat) (x2_0 : Int) (x3_0 : Bool), v2 = .int .i64 x2_0 ∧ v3 = .bool x3_0 ∧ Aside0 (zoneinfolaw05_awake.j0 kq x2_0 x3_0 1969 12 31 23 59 59 3 = some r) ∧ Aside0 (kq ≤ k) ∧ Aside0 (wc.heap[gb133]? = some (.cells #[.int .i64 1969, .int .i64 12, .int .i64 31, .int .i64 23, .int .i64 59, .int .i64 59, .int .i64 3] 23 (0, 0))) ∧ Aside0 (Below w.heap.size w wc))
  case first =>
    have H := HC1.out
    clear HC1
    replace H := Option.bind_eq_some_iff.mp H
    obtain ⟨⟨t134, t135⟩, A40, H⟩ := H
    replace H : (zoneinfolaw05_awake.j0 k t134 t135 1969 12 31 23 59 59 3) = some r := H
    have A4 := Aside0.mk A40
    clear A40
    have H' := Aside0.mk H
    clear H
    have hcz5_0 : w2.cell? ⟨gb133, 0, none⟩ = some (.int .i64 0) := (blk_cell BK133.out 0).trans rfl
    have hcz5_1 : w2.cell? ⟨gb133, 1, none⟩ = some (.int .i64 0) := (blk_cell BK133.out 1).trans rfl
    have hcz5_2 : w2.cell? ⟨gb133, 2, none⟩ = some (.int .i64 0) := (blk_cell BK133.out 2).trans rfl
    have hcz5_3 : w2.cell? ⟨gb133, 3, none⟩ = some (.int .i64 0) := (blk_cell BK133.out 3).trans rfl
    have hcz5_4 : w2.cell? ⟨gb133, 4, none⟩ = some (.int .i64 0) := (blk_cell BK133.out 4).trans rfl
    have hcz5_5 : w2.cell? ⟨gb133, 5, none⟩ = some (.int .i64 0) := (blk_cell BK133.out 5).trans rfl
    have hcz5_6 : w2.cell? ⟨gb133, 6, none⟩ = some (.int .i64 0) := (blk_cell BK133.out 6).trans rfl
    have hfz5_0 := blk_frozen BK133.out 0
    have hfz5_1 := blk_frozen BK133.out 1
    have hfz5_2 := blk_frozen BK133.out 2
    have hfz5_3 := blk_frozen BK133.out 3
    have hfz5_4 := blk_frozen BK133.out 4
    have hfz5_5 := blk_frozen BK133.out 5
    have hfz5_6 := blk_frozen BK133.out 6
    go_wp2_with (first | ((with_reducible refine gate_callee (f := 11) rfl ?_); refine goesL_ (some 16) rfl rfl Tryd.func11 (by kernel_rfl) rfl #[.agg #[.int .i64 1969, .int .i64 12, .int .i64 31, .int .i64 23, .int .i64 59, .int .i64 59, .int .i64 3]] rfl (by (try simp only [List.map_toArray, List.map_cons, List.map_nil]); first | done | rfl | (simp only [List.length_drop, List.length_take]; rfl)) ?_; (with_reducible refine (datetime_Unix.calls k 1969 12 31 23 59 59 3 t134 t135 _ ?side1 A4.out).mono ?_); (case side1 => exact Kd.C_below HRg.out (by repeat (first | (with_reducible first | exact HB.out | apply below_alloc | apply pw_below_drewN | apply below_drew1 | refine below_set ?_ GE133.out) | exact HB.out))); rintro e w6 ⟨rfl, hb⟩; refine ⟨_, rfl, ?_⟩; have n0_ := Aside0.mk (blk_below (g := gb133) (o := .cells #[.int .i64 1969, .int .i64 12, .int .i64 31, .int .i64 23, .int .i64 59, .int .i64 59, .int .i64 3] 23 (0, 0)) (by (with_reducible repeat (first | refine blk_drewN ?_ _ | refine blk_drew ?_ | refine blk_alloc ?_ _)); refine blk_put (cs := #[.int .i64 1969, .int .i64 12, .int .i64 31, .int .i64 23, .int .i64 59, .int .i64 59, .int .i64 0]) ?_ 6 _ rfl; (with_reducible repeat (first | refine blk_drewN ?_ _ | refine blk_drew ?_ | refine blk_alloc ?_ _)); refine blk_put (cs := #[.int .i64 1969, .int .i64 12, .int .i64 31, .int .i64 23, .int .i64 59, .int .i64 0, .int .i64 0]) ?_ 5 _ rfl; (with_reducible repeat (first | refine blk_drewN ?_ _ | refine blk_drew ?_ | refine blk_alloc ?_ _)); refine blk_put (cs := #[.int .i64 1969, .int .i64 12, .int .i64 31, .int .i64 23, .int .i64 0, .int .i64 0, .int .i64 0]) ?_ 4 _ rfl; (with_reducible repeat (first | refine blk_drewN ?_ _ | refine blk_drew ?_ | refine blk_alloc ?_ _)); refine blk_put (cs := #[.int .i64 1969, .int .i64 12, .int .i64 31, .int .i64 0, .int .i64 0, .int .i64 0, .int .i64 0]) ?_ 3 _ rfl; (with_reducible repeat (first | refine blk_drewN ?_ _ | refine blk_drew ?_ | refine blk_alloc ?_ _)); refine blk_put (cs := #[.int .i64 1969, .int .i64 12, .int .i64 0, .int .i64 0, .int .i64 0, .int .i64 0, .int .i64 0]) ?_ 2 _ rfl; (with_reducible repeat (first | refine blk_drewN ?_ _ | refine blk_drew ?_ | refine blk_alloc ?_ _)); refine blk_put (cs := #[.int .i64 1969, .int .i64 0, .int .i64 0, .int .i64 0, .int .i64 0, .int .i64 0, .int .i64 0]) ?_ 1 _ rfl; (with_reducible repeat (first | refine blk_drewN ?_ _ | refine blk_drew ?_ | refine blk_alloc ?_ _)); refine blk_put (cs := #[.int .i64 0, .int .i64 0, .int .i64 0, .int .i64 0, .int .i64 0, .int .i64 0, .int .i64 0]) ?_ 0 _ rfl; (with_reducible repeat (first | refine blk_drewN ?_ _ | refine blk_drew ?_ | refine blk_alloc ?_ _)); exact BK133.out) hb); have n1_ := Aside0.mk (below_step (by repeat (first | (with_reducible first | exact HB.out | apply below_alloc | apply pw_below_drewN | apply below_drew1 | refine below_set ?_ GE133.out) | exact HB.out)) hb); clear BK133; clear HB; have BK133 := n0_; have HB := n1_; clear n0_ n1_; (try clear hb); (try clear hb2); (try clear hk); (try clear hi)))
    go_meet
    case rel => exact ⟨_, (t134), (t135), (by first | rfl | (simp; done) | (simp [*]; done)), (by first | rfl | (simp; done) | (simp [*]; done)), H', ⟨by first | omega | exact Nat.le_refl _⟩, ⟨by (with_reducible repeat (first | refine blk_drewN ?_ _ | refine blk_drew ?_ | refine blk_alloc ?_ _)); exact BK133.out⟩, ⟨by repeat (first | (with_reducible first | exact HB.out | apply below_alloc | apply pw_below_drewN | apply below_drew1 | refine below_set ?_ GE133.out) | exact HB.out)⟩⟩
  case rest =>
    clear HC1
    try clear c1
    try clear p2
    try clear hcz3_0
    try clear hcz3_1
    try clear hcz3_2
    try clear hcz3_3
    try clear hcz3_4
    try clear hcz3_5
    try clear hcz3_6
    try clear hcz5_0
    try clear hcz5_1
    try clear hcz5_2
    try clear hcz5_3
    try clear hcz5_4
    try clear hcz5_5
    try clear hcz5_6
    try clear hfz3_0
    try clear hfz3_1
    try clear hfz3_2
    try clear hfz3_3
    try clear hfz3_4
    try clear hfz3_5
    try clear hfz3_6
    try clear hfz5_0
    try clear hfz5_1
    try clear hfz5_2
    try clear hfz5_3
    try clear hfz5_4
    try clear hfz5_5
    try clear hfz5_6
    obtain ⟨kq, x2_0, x3_0, rfl, rfl, HA, HJ0, BK133, HB⟩ := hcut
    cases kq with
    | zero => exact absurd HA.out (by simp [zoneinfolaw05_awake.j0])
    | succ kj0 =>
      have H := HA.out
      clear HA
      simp only [zoneinfolaw05_awake.j0] at H
      have HC7 := Aside0.mk H
      clear H
      have hcz8_0 : wc.cell? ⟨gb133, 0, none⟩ = some (.int .i64 1969) := (blk_cell BK133.out 0).trans rfl
      have hcz8_1 : wc.cell? ⟨gb133, 1, none⟩ = some (.int .i64 12) := (blk_cell BK133.out 1).trans rfl
      have hcz8_2 : wc.cell? ⟨gb133, 2, none⟩ = some (.int .i64 31) := (blk_cell BK133.out 2).trans rfl
      have hcz8_3 : wc.cell? ⟨gb133, 3, none⟩ = some (.int .i64 23) := (blk_cell BK133.out 3).trans rfl
      have hcz8_4 : wc.cell? ⟨gb133, 4, none⟩ = some (.int .i64 59) := (blk_cell BK133.out 4).trans rfl
      have hcz8_5 : wc.cell? ⟨gb133, 5, none⟩ = some (.int .i64 59) := (blk_cell BK133.out 5).trans rfl
      have hcz8_6 : wc.cell? ⟨gb133, 6, none⟩ = some (.int .i64 3) := (blk_cell BK133.out 6).trans rfl
      have hfz8_0 := blk_frozen BK133.out 0
      have hfz8_1 := blk_frozen BK133.out 1
      have hfz8_2 := blk_frozen BK133.out 2
      have hfz8_3 := blk_frozen BK133.out 3
      have hfz8_4 := blk_frozen BK133.out 4
      have hfz8_5 := blk_frozen BK133.out 5
      have hfz8_6 := blk_frozen BK133.out 6
      go_upto_region 4 with (first | ((with_reducible refine gate_dst (N := 4) rfl ?_); refine box_event ?hg (N := 4) ?hd (cs := #[.int .i64 0, .int .i64 0, .int .i64 0, .int .i64 0, .int .i64 0, .int .i64 0, .int .i64 0]) (t := 23) ?hr ?_; (case hd => rfl); (case hg => rfl); (case hr => first | (go_simp; done) | (go_simp; rfl)); intro gb136 hg w9 hbox hb; have n0_ := Aside0.mk (blk_below (g := gb133) (o := .cells #[.int .i64 1969, .int .i64 12, .int .i64 31, .int .i64 23, .int .i64 59, .int .i64 59, .int .i64 3] 23 (0, 0)) (by (with_reducible repeat (first | refine blk_drewN ?_ _ | refine blk_drew ?_ | refine blk_alloc ?_ _)); exact BK133.out) hb); have n1_ := Aside0.mk (below_step (by repeat (first | (with_reducible first | exact HB.out | apply below_alloc | apply pw_below_drewN | apply below_drew1 | refine below_set ?_ GE133.out) | exact HB.out)) hb); have n2_ := Aside0.mk (hbox); have n3_ := Aside0.mk ((by rw [hg]; exact (below_size (by repeat (first | (with_reducible first | exact HB.out | apply below_alloc | apply pw_below_drewN | apply below_drew1 | refine below_set ?_ GE133.out) | exact HB.out))) : w.heap.size ≤ gb136)); have n4_ := Aside0.mk ((by rw [hg]; exact (below_size (by repeat (first | (with_reducible first | exact HB.out | apply below_alloc | apply pw_below_drewN | apply below_drew1 | refine below_set ?_ GE133.out) | exact HB.out))) : w.heap.size ≤ gb136)); have n5_ := Aside0.mk ((by rw [hg]; exact Nat.ne_of_lt (blk_lt (g := gb133) (o := .cells #[.int .i64 1969, .int .i64 12, .int .i64 31, .int .i64 23, .int .i64 59, .int .i64 59, .int .i64 3] 23 (0, 0)) (by (with_reducible repeat (first | refine blk_drewN ?_ _ | refine blk_drew ?_ | refine blk_alloc ?_ _)); exact BK133.out)) : gb133 ≠ gb136)); have n6_ := Aside0.mk ((by rw [hg]; exact Nat.ne_of_gt (blk_lt (g := gb133) (o := .cells #[.int .i64 1969, .int .i64 12, .int .i64 31, .int .i64 23, .int .i64 59, .int .i64 59, .int .i64 3] 23 (0, 0)) (by (with_reducible repeat (first | refine blk_drewN ?_ _ | refine blk_drew ?_ | refine blk_alloc ?_ _)); exact BK133.out)) : gb136 ≠ gb133)); clear BK133; clear HB; have BK133 := n0_; have HB := n1_; have BK136 := n2_; have GW136 := n3_; have GE136 := n4_; have NB133_136 := n5_; have NB136_133 := n6_; clear n0_ n1_ n2_ n3_ n4_ n5_ n6_; clear hb hbox hg; have hnb10 := NB136_133.out; have hnc10 := NB133_136.out; have hcz11_0 : w9.cell? ⟨gb136, 0, none⟩ = some (.int .i64 0) := (blk_cell BK136.out 0).trans rfl; have hcz11_1 : w9.cell? ⟨gb136, 1, none⟩ = some (.int .i64 0) := (blk_cell BK136.out 1).trans rfl; have hcz11_2 : w9.cell? ⟨gb136, 2, none⟩ = some (.int .i64 0) := (blk_cell BK136.out 2).trans rfl; have hcz11_3 : w9.cell? ⟨gb136, 3, none⟩ = some (.int .i64 0) := (blk_cell BK136.out 3).trans rfl; have hcz11_4 : w9.cell? ⟨gb136, 4, none⟩ = some (.int .i64 0) := (blk_cell BK136.out 4).trans rfl; have hcz11_5 : w9.cell? ⟨gb136, 5, none⟩ = some (.int .i64 0) := (blk_cell BK136.out 5).trans rfl; have hcz11_6 : w9.cell? ⟨gb136, 6, none⟩ = some (.int .i64 0) := (blk_cell BK136.out 6).trans rfl; have hfz11_0 := blk_frozen BK136.out 0; have hfz11_1 := blk_frozen BK136.out 1; have hfz11_2 := blk_frozen BK136.out 2; have hfz11_3 := blk_frozen BK136.out 3; have hfz11_4 := blk_frozen BK136.out 4; have hfz11_5 := blk_frozen BK136.out 5; have hfz11_6 := blk_frozen BK136.out 6))
      (try simp only [Act.put, List.setIfInBounds_toArray, List.set_cons_zero, List.set_cons_succ])
      go_cut [] (fun wc => ∃ (kq : Nat) (x137006_6 : Int), Aside0 (zoneinfolaw05_awake.j1 kq x2_0 x3_0 1969 12 31 23 59 59 3 1969 12 31 23 59 59 x137006_6 = some r) ∧ Aside0 (kq ≤ kj0) ∧ Aside0 (wc.heap[gb133]? = some (.cells #[.int .i64 1969, .int .i64 12, .int .i64 31, .int .i64 23, .int .i64 59, .int .i64 59, .int .i64 3] 23 (0, 0))) ∧ Aside0 (wc.heap[gb136]? = some (.cells #[.int .i64 1969, .int .i64 12, .int .i64 31, .int .i64 23, .int .i64 59, .int .i64 59, .int .i64 x137006_6] 23 (0, 0))) ∧ Aside0 (Below w.heap.size w wc))
      case first =>
        have H := HC7.out
        clear HC7
        have H' := Aside0.mk H
        clear H
        have hnb12 := NB136_133.out
        have hnc12 := NB133_136.out
        have hcz13_0 : w9.cell? ⟨gb136, 0, none⟩ = some (.int .i64 0) := (blk_cell BK136.out 0).trans rfl
        have hcz13_1 : w9.cell? ⟨gb136, 1, none⟩ = some (.int .i64 0) := (blk_cell BK136.out 1).trans rfl
        have hcz13_2 : w9.cell? ⟨gb136, 2, none⟩ = some (.int .i64 0) := (blk_cell BK136.out 2).trans rfl
        have hcz13_3 : w9.cell? ⟨gb136, 3, none⟩ = some (.int .i64 0) := (blk_cell BK136.out 3).trans rfl
        have hcz13_4 : w9.cell? ⟨gb136, 4, none⟩ = some (.int .i64 0) := (blk_cell BK136.out 4).trans rfl
        have hcz13_5 : w9.cell? ⟨gb136, 5, none⟩ = some (.int .i64 0) := (blk_cell BK136.out 5).trans rfl
        have hcz13_6 : w9.cell? ⟨gb136, 6, none⟩ = some (.int .i64 0) := (blk_cell BK136.out 6).trans rfl
        have hfz13_0 := blk_frozen BK136.out 0
        have hfz13_1 := blk_frozen BK136.out 1
        have hfz13_2 := blk_frozen BK136.out 2
        have hfz13_3 := blk_frozen BK136.out 3
        have hfz13_4 := blk_frozen BK136.out 4
        have hfz13_5 := blk_frozen BK136.out 5
        have hfz13_6 := blk_frozen BK136.out 6
        go_wp2
        go_meet
        case rel => exact ⟨_, (4), H', ⟨by have := HJ0.out; first | omega | exact Nat.le_refl _⟩, ⟨by (with_reducible repeat (first | refine blk_drewN ?_ _ | refine blk_drew ?_ | refine blk_alloc ?_ _)); refine blk_far ?_ NB133_136.out _; (with_reducible repeat (first | refine blk_drewN ?_ _ | refine blk_drew ?_ | refine blk_alloc ?_ _)); refine blk_far ?_ NB133_136.out _; (with_reducible repeat (first | refine blk_drewN ?_ _ | refine blk_drew ?_ | refine blk_alloc ?_ _)); refine blk_far ?_ NB133_136.out _; (with_reducible repeat (first | refine blk_drewN ?_ _ | refine blk_drew ?_ | refine blk_alloc ?_ _)); refine blk_far ?_ NB133_136.out _; (with_reducible repeat (first | refine blk_drewN ?_ _ | refine blk_drew ?_ | refine blk_alloc ?_ _)); refine blk_far ?_ NB133_136.out _; (with_reducible repeat (first | refine blk_drewN ?_ _ | refine blk_drew ?_ | refine blk_alloc ?_ _)); refine blk_far ?_ NB133_136.out _; (with_reducible repeat (first | refine blk_drewN ?_ _ | refine blk_drew ?_ | refine blk_alloc ?_ _)); refine blk_far ?_ NB133_136.out _; (with_reducible repeat (first | refine blk_drewN ?_ _ | refine blk_drew ?_ | refine blk_alloc ?_ _)); refine blk_far ?_ NB133_136.out _; (with_reducible repeat (first | refine blk_drewN ?_ _ | refine blk_drew ?_ | refine blk_alloc ?_ _)); exact BK133.out⟩, ⟨by (with_reducible repeat (first | refine blk_drewN ?_ _ | refine blk_drew ?_ | refine blk_alloc ?_ _)); refine blk_put (cs := #[.int .i64 1969, .int .i64 12, .int .i64 31, .int .i64 23, .int .i64 59, .int .i64 59, .int .i64 3]) ?_ 6 _ rfl; (with_reducible repeat (first | refine blk_drewN ?_ _ | refine blk_drew ?_ | refine blk_alloc ?_ _)); refine blk_put (cs := #[.int .i64 1969, .int .i64 12, .int .i64 31, .int .i64 23, .int .i64 59, .int .i64 59, .int .i64 0]) ?_ 6 _ rfl; (with_reducible repeat (first | refine blk_drewN ?_ _ | refine blk_drew ?_ | refine blk_alloc ?_ _)); refine blk_put (cs := #[.int .i64 1969, .int .i64 12, .int .i64 31, .int .i64 23, .int .i64 59, .int .i64 0, .int .i64 0]) ?_ 5 _ rfl; (with_reducible repeat (first | refine blk_drewN ?_ _ | refine blk_drew ?_ | refine blk_alloc ?_ _)); refine blk_put (cs := #[.int .i64 1969, .int .i64 12, .int .i64 31, .int .i64 23, .int .i64 0, .int .i64 0, .int .i64 0]) ?_ 4 _ rfl; (with_reducible repeat (first | refine blk_drewN ?_ _ | refine blk_drew ?_ | refine blk_alloc ?_ _)); refine blk_put (cs := #[.int .i64 1969, .int .i64 12, .int .i64 31, .int .i64 0, .int .i64 0, .int .i64 0, .int .i64 0]) ?_ 3 _ rfl; (with_reducible repeat (first | refine blk_drewN ?_ _ | refine blk_drew ?_ | refine blk_alloc ?_ _)); refine blk_put (cs := #[.int .i64 1969, .int .i64 12, .int .i64 0, .int .i64 0, .int .i64 0, .int .i64 0, .int .i64 0]) ?_ 2 _ rfl; (with_reducible repeat (first | refine blk_drewN ?_ _ | refine blk_drew ?_ | refine blk_alloc ?_ _)); refine blk_put (cs := #[.int .i64 1969, .int .i64 0, .int .i64 0, .int .i64 0, .int .i64 0, .int .i64 0, .int .i64 0]) ?_ 1 _ rfl; (with_reducible repeat (first | refine blk_drewN ?_ _ | refine blk_drew ?_ | refine blk_alloc ?_ _)); refine blk_put (cs := #[.int .i64 0, .int .i64 0, .int .i64 0, .int .i64 0, .int .i64 0, .int .i64 0, .int .i64 0]) ?_ 0 _ rfl; (with_reducible repeat (first | refine blk_drewN ?_ _ | refine blk_drew ?_ | refine blk_alloc ?_ _)); exact BK136.out⟩, ⟨by repeat (first | (with_reducible first | exact HB.out | apply below_alloc | apply pw_below_drewN | apply below_drew1 | refine below_set ?_ GE133.out | refine below_set ?_ GE136.out) | exact HB.out)⟩⟩
      case rest =>
        clear HC7
        try clear c1
        try clear p2
        try clear c8
        try clear c10
        try clear c11
        try clear c12
        try clear hcz11_0
        try clear hcz11_1
        try clear hcz11_2
        try clear hcz11_3
        try clear hcz11_4
        try clear hcz11_5
        try clear hcz11_6
        try clear hcz13_0
        try clear hcz13_1
        try clear hcz13_2
        try clear hcz13_3
        try clear hcz13_4
        try clear hcz13_5
        try clear hcz13_6
        try clear hcz3_0
        try clear hcz3_1
        try clear hcz3_2
        try clear hcz3_3
        try clear hcz3_4
        try clear hcz3_5
        try clear hcz3_6
        try clear hcz5_0
        try clear hcz5_1
        try clear hcz5_2
        try clear hcz5_3
        try clear hcz5_4
        try clear hcz5_5
        try clear hcz5_6
        try clear hcz8_0
        try clear hcz8_1
        try clear hcz8_2
        try clear hcz8_3
        try clear hcz8_4
        try clear hcz8_5
        try clear hcz8_6
        try clear hfz11_0
        try clear hfz11_1
        try clear hfz11_2
        try clear hfz11_3
        try clear hfz11_4
        try clear hfz11_5
        try clear hfz11_6
        try clear hfz13_0
        try clear hfz13_1
        try clear hfz13_2
        try clear hfz13_3
        try clear hfz13_4
        try clear hfz13_5
        try clear hfz13_6
        try clear hfz3_0
        try clear hfz3_1
        try clear hfz3_2
        try clear hfz3_3
        try clear hfz3_4
        try clear hfz3_5
        try clear hfz3_6
        try clear hfz5_0
        try clear hfz5_1
        try clear hfz5_2
        try clear hfz5_3
        try clear hfz5_4
        try clear hfz5_5
        try clear hfz5_6
        try clear hfz8_0
        try clear hfz8_1
        try clear hfz8_2
        try clear hfz8_3
        try clear hfz8_4
        try clear hfz8_5
        try clear hfz8_6
        try clear p2
        obtain ⟨kq, x137006_6, HA, HJ6, BK133, BK136, HB⟩ := hcut
        cases kq with
        | zero => exact absurd HA.out (by simp [zoneinfolaw05_awake.j1])
        | succ kj6 =>
          have H := HA.out
          clear HA
          simp only [zoneinfolaw05_awake.j1] at H
          have HC14 := Aside0.mk H
          clear H
          go_upto_region 5 with (fail)
          go_cut [6] (fun v6 wc => ∃ (kq : Nat) (x6_13 : Bool), v6 = .bool x6_13 ∧ Aside0 (zoneinfolaw05_awake.j2 kq x2_0 x3_0 x6_13 1969 12 31 23 59 59 3 = some r) ∧ Aside0 (kq ≤ kj6) ∧ Aside0 (wc.heap[gb133]? = some (.cells #[.int .i64 1969, .int .i64 12, .int .i64 31, .int .i64 23, .int .i64 59, .int .i64 59, .int .i64 3] 23 (0, 0))) ∧ Aside0 (wc.heap[gb136]? = some (.cells #[.int .i64 1969, .int .i64 12, .int .i64 31, .int .i64 23, .int .i64 59, .int .i64 59, .int .i64 x137006_6] 23 (0, 0))) ∧ Aside0 (Below w.heap.size w wc))
          case first =>
            have H := HC14.out
            clear HC14
            replace H := Option.bind_eq_some_iff.mp H
            obtain ⟨⟨t137, t138⟩, A150, H⟩ := H
            replace H : (zoneinfolaw05_awake.j2 kj6 x2_0 x3_0 t138 1969 12 31 23 59 59 3) = some r := H
            have A15 := Aside0.mk A150
            clear A150
            have H' := Aside0.mk H
            clear H
            have hnb16 := NB136_133.out
            have hnc16 := NB133_136.out
            have hcz17_0 : wc.cell? ⟨gb136, 0, none⟩ = some (.int .i64 1969) := (blk_cell BK136.out 0).trans rfl
            have hcz17_1 : wc.cell? ⟨gb136, 1, none⟩ = some (.int .i64 12) := (blk_cell BK136.out 1).trans rfl
            have hcz17_2 : wc.cell? ⟨gb136, 2, none⟩ = some (.int .i64 31) := (blk_cell BK136.out 2).trans rfl
            have hcz17_3 : wc.cell? ⟨gb136, 3, none⟩ = some (.int .i64 23) := (blk_cell BK136.out 3).trans rfl
            have hcz17_4 : wc.cell? ⟨gb136, 4, none⟩ = some (.int .i64 59) := (blk_cell BK136.out 4).trans rfl
            have hcz17_5 : wc.cell? ⟨gb136, 5, none⟩ = some (.int .i64 59) := (blk_cell BK136.out 5).trans rfl
            have hcz17_6 : wc.cell? ⟨gb136, 6, none⟩ = some (.int .i64 x137006_6) := (blk_cell BK136.out 6).trans rfl
            have hfz17_0 := blk_frozen BK136.out 0
            have hfz17_1 := blk_frozen BK136.out 1
            have hfz17_2 := blk_frozen BK136.out 2
            have hfz17_3 := blk_frozen BK136.out 3
            have hfz17_4 := blk_frozen BK136.out 4
            have hfz17_5 := blk_frozen BK136.out 5
            have hfz17_6 := blk_frozen BK136.out 6
            go_wp2_with (first | ((with_reducible refine gate_callee (f := 11) rfl ?_); refine goesL_ (some 23) rfl rfl Tryd.func11 (by kernel_rfl) rfl #[.agg #[.int .i64 1969, .int .i64 12, .int .i64 31, .int .i64 23, .int .i64 59, .int .i64 59, .int .i64 x137006_6]] rfl (by (try simp only [List.map_toArray, List.map_cons, List.map_nil]); first | done | rfl | (simp only [List.length_drop, List.length_take]; rfl)) ?_; (with_reducible refine (datetime_Unix.calls kj6 1969 12 31 23 59 59 x137006_6 t137 t138 _ ?side1 A15.out).mono ?_); (case side1 => repeat (first | exact (Kd.C_below HRg.out HB.out) | (with_reducible refine Kd.C_alloc ?_ _) | (with_reducible refine Kd.C_drewN ?_ _) | (with_reducible refine Kd.C_drew ?_))); rintro e w18 ⟨rfl, hb⟩; refine ⟨_, rfl, ?_⟩; have n0_ := Aside0.mk (blk_below (g := gb133) (o := .cells #[.int .i64 1969, .int .i64 12, .int .i64 31, .int .i64 23, .int .i64 59, .int .i64 59, .int .i64 3] 23 (0, 0)) (by (with_reducible repeat (first | refine blk_drewN ?_ _ | refine blk_drew ?_ | refine blk_alloc ?_ _)); exact BK133.out) hb); have n1_ := Aside0.mk (blk_below (g := gb136) (o := .cells #[.int .i64 1969, .int .i64 12, .int .i64 31, .int .i64 23, .int .i64 59, .int .i64 59, .int .i64 x137006_6] 23 (0, 0)) (by (with_reducible repeat (first | refine blk_drewN ?_ _ | refine blk_drew ?_ | refine blk_alloc ?_ _)); exact BK136.out) hb); have n2_ := Aside0.mk (below_step (by repeat (first | (with_reducible first | exact HB.out | apply below_alloc | apply pw_below_drewN | apply below_drew1 | refine below_set ?_ GE133.out | refine below_set ?_ GE136.out) | exact HB.out)) hb); clear BK133; clear BK136; clear HB; have BK133 := n0_; have BK136 := n1_; have HB := n2_; clear n0_ n1_ n2_; (try clear hb); (try clear hb2); (try clear hk); (try clear hi)))
            go_meet
            case rel => exact ⟨_, (t138), (by first | rfl | (simp; done) | (simp [*]; done)), H', ⟨by have := HJ0.out; have := HJ6.out; first | omega | exact Nat.le_refl _⟩, ⟨by (with_reducible repeat (first | refine blk_drewN ?_ _ | refine blk_drew ?_ | refine blk_alloc ?_ _)); exact BK133.out⟩, ⟨by (with_reducible repeat (first | refine blk_drewN ?_ _ | refine blk_drew ?_ | refine blk_alloc ?_ _)); exact BK136.out⟩, ⟨by repeat (first | (with_reducible first | exact HB.out | apply below_alloc | apply pw_below_drewN | apply below_drew1 | refine below_set ?_ GE133.out | refine below_set ?_ GE136.out) | exact HB.out)⟩⟩
          case rest =>
            clear HC14
            try clear c1
            try clear p2
            try clear c8
            try clear c10
            try clear c11
            try clear c12
            try clear c16
            try clear hcz11_0
            try clear hcz11_1
            try clear hcz11_2
            try clear hcz11_3
            try clear hcz11_4
            try clear hcz11_5
            try clear hcz11_6
            try clear hcz13_0
            try clear hcz13_1
            try clear hcz13_2
            try clear hcz13_3
            try clear hcz13_4
            try clear hcz13_5
            try clear hcz13_6
            try clear hcz17_0
            try clear hcz17_1
            try clear hcz17_2
            try clear hcz17_3
            try clear hcz17_4
            try clear hcz17_5
            try clear hcz17_6
            try clear hcz3_0
            try clear hcz3_1
            try clear hcz3_2
            try clear hcz3_3
            try clear hcz3_4
            try clear hcz3_5
            try clear hcz3_6
            try clear hcz5_0
            try clear hcz5_1
            try clear hcz5_2
            try clear hcz5_3
            try clear hcz5_4
            try clear hcz5_5
            try clear hcz5_6
            try clear hcz8_0
            try clear hcz8_1
            try clear hcz8_2
            try clear hcz8_3
            try clear hcz8_4
            try clear hcz8_5
            try clear hcz8_6
            try clear hfz11_0
            try clear hfz11_1
            try clear hfz11_2
            try clear hfz11_3
            try clear hfz11_4
            try clear hfz11_5
            try clear hfz11_6
            try clear hfz13_0
            try clear hfz13_1
            try clear hfz13_2
            try clear hfz13_3
            try clear hfz13_4
            try clear hfz13_5
            try clear hfz13_6
            try clear hfz17_0
            try clear hfz17_1
            try clear hfz17_2
            try clear hfz17_3
            try clear hfz17_4
            try clear hfz17_5
            try clear hfz17_6
            try clear hfz3_0
            try clear hfz3_1
            try clear hfz3_2
            try clear hfz3_3
            try clear hfz3_4
            try clear hfz3_5
            try clear hfz3_6
            try clear hfz5_0
            try clear hfz5_1
            try clear hfz5_2
            try clear hfz5_3
            try clear hfz5_4
            try clear hfz5_5
            try clear hfz5_6
            try clear hfz8_0
            try clear hfz8_1
            try clear hfz8_2
            try clear hfz8_3
            try clear hfz8_4
            try clear hfz8_5
            try clear hfz8_6
            try clear p2
            obtain ⟨kq, x6_13, rfl, HA, HJ13, BK133, BK136, HB⟩ := hcut
            cases kq with
            | zero => exact absurd HA.out (by simp [zoneinfolaw05_awake.j2])
            | succ kj13 =>
              have H := HA.out
              clear HA
              simp only [zoneinfolaw05_awake.j2] at H
              have HC19 := Aside0.mk H
              clear H
              go_upto_region 6 with (fail)
              go_cut [8] (fun v8 wc => ∃ (kq : Nat) (x8_18 : Bool), v8 = .bool x8_18 ∧ Aside0 (zoneinfolaw05_awake.j3 kq x2_0 x3_0 x6_13 x8_18 1969 12 31 23 59 59 3 = some r) ∧ Aside0 (kq ≤ kj13) ∧ Aside0 (wc.heap[gb133]? = some (.cells #[.int .i64 1969, .int .i64 12, .int .i64 31, .int .i64 23, .int .i64 59, .int .i64 59, .int .i64 3] 23 (0, 0))) ∧ Aside0 (wc.heap[gb136]? = some (.cells #[.int .i64 1969, .int .i64 12, .int .i64 31, .int .i64 23, .int .i64 59, .int .i64 59, .int .i64 x137006_6] 23 (0, 0))) ∧ Aside0 (Below w.heap.size w wc))
              case first =>
                have H := HC19.out
                clear HC19
                replace H := Option.bind_eq_some_iff.mp H
                obtain ⟨⟨t139, t140⟩, A200, H⟩ := H
                replace H : (zoneinfolaw05_awake.j3 kj13 x2_0 x3_0 x6_13 t140 1969 12 31 23 59 59 3) = some r := H
                have A20 := Aside0.mk A200
                clear A200
                have H' := Aside0.mk H
                clear H
                go_wp2_with (first | ((with_reducible refine gate_callee (f := 11) rfl ?_); refine goesL_ (some 28) rfl rfl Tryd.func11 (by kernel_rfl) rfl #[.agg #[.int .i64 1099511627776, .int .i64 1, .int .i64 1, .int .i64 0, .int .i64 0, .int .i64 0, .int .i64 0]] rfl (by (try simp only [List.map_toArray, List.map_cons, List.map_nil]); first | done | rfl | (simp only [List.length_drop, List.length_take]; rfl)) ?_; (with_reducible refine (datetime_Unix.calls kj13 1099511627776 1 1 0 0 0 0 t139 t140 _ ?side1 A20.out).mono ?_); (case side1 => repeat (first | exact (Kd.C_below HRg.out HB.out) | (with_reducible refine Kd.C_alloc ?_ _) | (with_reducible refine Kd.C_drewN ?_ _) | (with_reducible refine Kd.C_drew ?_))); rintro e w21 ⟨rfl, hb⟩; refine ⟨_, rfl, ?_⟩; have n0_ := Aside0.mk (blk_below (g := gb133) (o := .cells #[.int .i64 1969, .int .i64 12, .int .i64 31, .int .i64 23, .int .i64 59, .int .i64 59, .int .i64 3] 23 (0, 0)) (by (with_reducible repeat (first | refine blk_drewN ?_ _ | refine blk_drew ?_ | refine blk_alloc ?_ _)); exact BK133.out) hb); have n1_ := Aside0.mk (blk_below (g := gb136) (o := .cells #[.int .i64 1969, .int .i64 12, .int .i64 31, .int .i64 23, .int .i64 59, .int .i64 59, .int .i64 x137006_6] 23 (0, 0)) (by (with_reducible repeat (first | refine blk_drewN ?_ _ | refine blk_drew ?_ | refine blk_alloc ?_ _)); exact BK136.out) hb); have n2_ := Aside0.mk (below_step (by repeat (first | (with_reducible first | exact HB.out | apply below_alloc | apply pw_below_drewN | apply below_drew1 | refine below_set ?_ GE133.out | refine below_set ?_ GE136.out) | exact HB.out)) hb); clear BK133; clear BK136; clear HB; have BK133 := n0_; have BK136 := n1_; have HB := n2_; clear n0_ n1_ n2_; (try clear hb); (try clear hb2); (try clear hk); (try clear hi)))
                go_meet
                case rel => exact ⟨_, (t140), (by first | rfl | (simp; done) | (simp [*]; done)), H', ⟨by have := HJ0.out; have := HJ6.out; have := HJ13.out; first | omega | exact Nat.le_refl _⟩, ⟨by (with_reducible repeat (first | refine blk_drewN ?_ _ | refine blk_drew ?_ | refine blk_alloc ?_ _)); exact BK133.out⟩, ⟨by (with_reducible repeat (first | refine blk_drewN ?_ _ | refine blk_drew ?_ | refine blk_alloc ?_ _)); exact BK136.out⟩, ⟨by repeat (first | (with_reducible first | exact HB.out | apply below_alloc | apply pw_below_drewN | apply below_drew1 | refine below_set ?_ GE133.out | refine below_set ?_ GE136.out) | exact HB.out)⟩⟩
              case rest =>
                clear HC19
                try clear c1
                try clear p2
                try clear c8
                try clear c10
                try clear c11
                try clear c12
                try clear c16
                try clear hcz11_0
                try clear hcz11_1
                try clear hcz11_2
                try clear hcz11_3
                try clear hcz11_4
                try clear hcz11_5
                try clear hcz11_6
                try clear hcz13_0
                try clear hcz13_1
                try clear hcz13_2
                try clear hcz13_3
                try clear hcz13_4
                try clear hcz13_5
                try clear hcz13_6
                try clear hcz17_0
                try clear hcz17_1
                try clear hcz17_2
                try clear hcz17_3
                try clear hcz17_4
                try clear hcz17_5
                try clear hcz17_6
                try clear hcz3_0
                try clear hcz3_1
                try clear hcz3_2
                try clear hcz3_3
                try clear hcz3_4
                try clear hcz3_5
                try clear hcz3_6
                try clear hcz5_0
                try clear hcz5_1
                try clear hcz5_2
                try clear hcz5_3
                try clear hcz5_4
                try clear hcz5_5
                try clear hcz5_6
                try clear hcz8_0
                try clear hcz8_1
                try clear hcz8_2
                try clear hcz8_3
                try clear hcz8_4
                try clear hcz8_5
                try clear hcz8_6
                try clear hfz11_0
                try clear hfz11_1
                try clear hfz11_2
                try clear hfz11_3
                try clear hfz11_4
                try clear hfz11_5
                try clear hfz11_6
                try clear hfz13_0
                try clear hfz13_1
                try clear hfz13_2
                try clear hfz13_3
                try clear hfz13_4
                try clear hfz13_5
                try clear hfz13_6
                try clear hfz17_0
                try clear hfz17_1
                try clear hfz17_2
                try clear hfz17_3
                try clear hfz17_4
                try clear hfz17_5
                try clear hfz17_6
                try clear hfz3_0
                try clear hfz3_1
                try clear hfz3_2
                try clear hfz3_3
                try clear hfz3_4
                try clear hfz3_5
                try clear hfz3_6
                try clear hfz5_0
                try clear hfz5_1
                try clear hfz5_2
                try clear hfz5_3
                try clear hfz5_4
                try clear hfz5_5
                try clear hfz5_6
                try clear hfz8_0
                try clear hfz8_1
                try clear hfz8_2
                try clear hfz8_3
                try clear hfz8_4
                try clear hfz8_5
                try clear hfz8_6
                try clear p2
                obtain ⟨kq, x8_18, rfl, HA, HJ18, BK133, BK136, HB⟩ := hcut
                cases kq with
                | zero => exact absurd HA.out (by simp [zoneinfolaw05_awake.j3])
                | succ kj18 =>
                  have H := HA.out
                  clear HA
                  simp only [zoneinfolaw05_awake.j3] at H
                  replace H := Option.bind_eq_some_iff.mp H
                  obtain ⟨⟨t141, t142⟩, A220, H⟩ := H
                  replace H : ((datetime_Split.f (-9223372036854775808)).bind fun bt143 => (zoneinfolaw05_awake.j4 kj18 x2_0 x3_0 x6_13 x8_18 t141 t142 bt143.1 bt143.2 1969 12 31 23 59 59 3)) = some r := H
                  have A22 := Aside0.mk A220
                  clear A220
                  have HC23 := Aside0.mk H
                  clear H
                  go_upto_region 8 with (first | ((with_reducible refine gate_callee (f := 9) rfl ?_); refine goesL_ (some 32) rfl rfl Tryd.func9 (by kernel_rfl) rfl #[.int .i64 (-1)] rfl (by (try simp only [List.map_toArray, List.map_cons, List.map_nil]); first | done | rfl | (simp only [List.length_drop, List.length_take]; rfl)) ?_; (with_reducible refine (datetime_Split.calls (-1) t141 t142 _ A22.out).mono ?_); rintro e w' ⟨rfl, ⟨nd, rfl⟩⟩; refine ⟨_, rfl, ?_⟩))
                  (try simp only [Act.put, List.setIfInBounds_toArray, List.set_cons_zero, List.set_cons_succ])
                  go_cut [11, 12] (fun v11 v12 wc => ∃ (kq : Nat) (x11_22 : Int) (x12_22 : Int), v11 = .int .i64 x11_22 ∧ v12 = .int .i64 x12_22 ∧ Aside0 (zoneinfolaw05_awake.j4 kq x2_0 x3_0 x6_13 x8_18 t141 t142 x11_22 x12_22 1969 12 31 23 59 59 3 = some r) ∧ Aside0 (kq ≤ kj18) ∧ Aside0 (wc.heap[gb133]? = some (.cells #[.int .i64 1969, .int .i64 12, .int .i64 31, .int .i64 23, .int .i64 59, .int .i64 59, .int .i64 3] 23 (0, 0))) ∧ Aside0 (wc.heap[gb136]? = some (.cells #[.int .i64 1969, .int .i64 12, .int .i64 31, .int .i64 23, .int .i64 59, .int .i64 59, .int .i64 x137006_6] 23 (0, 0))) ∧ Aside0 (Below w.heap.size w wc))
                  case first =>
                    have H := HC23.out
                    clear HC23
                    replace H := Option.bind_eq_some_iff.mp H
                    obtain ⟨⟨t143, t144⟩, A240, H⟩ := H
                    replace H : (zoneinfolaw05_awake.j4 kj18 x2_0 x3_0 x6_13 x8_18 t141 t142 t143 t144 1969 12 31 23 59 59 3) = some r := H
                    have A24 := Aside0.mk A240
                    clear A240
                    have H' := Aside0.mk H
                    clear H
                    go_wp2_with (first | ((with_reducible refine gate_callee (f := 9) rfl ?_); refine goesL_ (some 36) rfl rfl Tryd.func9 (by kernel_rfl) rfl #[.int .i64 (-9223372036854775808)] rfl (by (try simp only [List.map_toArray, List.map_cons, List.map_nil]); first | done | rfl | (simp only [List.length_drop, List.length_take]; rfl)) ?_; (with_reducible refine (datetime_Split.calls (-9223372036854775808) t143 t144 _ A24.out).mono ?_); rintro e w' ⟨rfl, ⟨nd, rfl⟩⟩; refine ⟨_, rfl, ?_⟩))
                    go_meet
                    case rel => exact ⟨_, (t143), (t144), (by first | rfl | (simp; done) | (simp [*]; done)), (by first | rfl | (simp; done) | (simp [*]; done)), H', ⟨by have := HJ0.out; have := HJ6.out; have := HJ13.out; have := HJ18.out; first | omega | exact Nat.le_refl _⟩, ⟨by (with_reducible repeat (first | refine blk_drewN ?_ _ | refine blk_drew ?_ | refine blk_alloc ?_ _)); exact BK133.out⟩, ⟨by (with_reducible repeat (first | refine blk_drewN ?_ _ | refine blk_drew ?_ | refine blk_alloc ?_ _)); exact BK136.out⟩, ⟨by repeat (first | (with_reducible first | exact HB.out | apply below_alloc | apply pw_below_drewN | apply below_drew1 | refine below_set ?_ GE133.out | refine below_set ?_ GE136.out) | exact HB.out)⟩⟩
                  case rest =>
                    clear HC23
                    try clear c1
                    try clear p2
                    try clear c8
                    try clear c9
                    try clear c10
                    try clear c11
                    try clear c12
                    try clear c16
                    try clear hcz11_0
                    try clear hcz11_1
                    try clear hcz11_2
                    try clear hcz11_3
                    try clear hcz11_4
                    try clear hcz11_5
                    try clear hcz11_6
                    try clear hcz13_0
                    try clear hcz13_1
                    try clear hcz13_2
                    try clear hcz13_3
                    try clear hcz13_4
                    try clear hcz13_5
                    try clear hcz13_6
                    try clear hcz17_0
                    try clear hcz17_1
                    try clear hcz17_2
                    try clear hcz17_3
                    try clear hcz17_4
                    try clear hcz17_5
                    try clear hcz17_6
                    try clear hcz3_0
                    try clear hcz3_1
                    try clear hcz3_2
                    try clear hcz3_3
                    try clear hcz3_4
                    try clear hcz3_5
                    try clear hcz3_6
                    try clear hcz5_0
                    try clear hcz5_1
                    try clear hcz5_2
                    try clear hcz5_3
                    try clear hcz5_4
                    try clear hcz5_5
                    try clear hcz5_6
                    try clear hcz8_0
                    try clear hcz8_1
                    try clear hcz8_2
                    try clear hcz8_3
                    try clear hcz8_4
                    try clear hcz8_5
                    try clear hcz8_6
                    try clear hfz11_0
                    try clear hfz11_1
                    try clear hfz11_2
                    try clear hfz11_3
                    try clear hfz11_4
                    try clear hfz11_5
                    try clear hfz11_6
                    try clear hfz13_0
                    try clear hfz13_1
                    try clear hfz13_2
                    try clear hfz13_3
                    try clear hfz13_4
                    try clear hfz13_5
                    try clear hfz13_6
                    try clear hfz17_0
                    try clear hfz17_1
                    try clear hfz17_2
                    try clear hfz17_3
                    try clear hfz17_4
                    try clear hfz17_5
                    try clear hfz17_6
                    try clear hfz3_0
                    try clear hfz3_1
                    try clear hfz3_2
                    try clear hfz3_3
                    try clear hfz3_4
                    try clear hfz3_5
                    try clear hfz3_6
                    try clear hfz5_0
                    try clear hfz5_1
                    try clear hfz5_2
                    try clear hfz5_3
                    try clear hfz5_4
                    try clear hfz5_5
                    try clear hfz5_6
                    try clear hfz8_0
                    try clear hfz8_1
                    try clear hfz8_2
                    try clear hfz8_3
                    try clear hfz8_4
                    try clear hfz8_5
                    try clear hfz8_6
                    try clear p2
                    obtain ⟨kq, x11_22, x12_22, rfl, rfl, HA, HJ22, BK133, BK136, HB⟩ := hcut
                    cases kq with
                    | zero => exact absurd HA.out (by simp [zoneinfolaw05_awake.j4])
                    | succ kj22 =>
                      have H := HA.out
                      clear HA
                      simp only [zoneinfolaw05_awake.j4] at H
                      replace H := Option.bind_eq_some_iff.mp H
                      obtain ⟨⟨t145, t146, t147, t148, t149, t150, t151⟩, A250, H⟩ := H
                      replace H : (if (t145 == 1969 && (t146 == 12 && (t147 == 31 && (t148 == 23 && (t149 == 59 && (t150 == 59 && (t151 == 3))))))) = true then (if x2_0 = (-1) then (if x3_0 = true then (if x6_13 = true then (none) else (if x8_18 = true then (none) else (if t141 = (-1) then (if t142 = 86399 then (if x11_22 = (-106751991167301) then (if x12_22 = 30592 then ((datetime_YearOf.f 0).bind fun t152 => (if t152 = 1970 then ((datetime_YearOf.f 9223372036854775807).bind fun t153 => (if t153 = 292277026596 then ((datetime_YearOf.f (-9223372036854775808)).bind fun t154 => (some (t154 == (-292277022657)))) else (none))) else (none))) else (none)) else (none)) else (none)) else (none)))) else (none)) else (none)) else (none)) = some r := H
                      have A25 := Aside0.mk A250
                      clear A250
                      by_cases c26 : (t145 == 1969 && (t146 == 12 && (t147 == 31 && (t148 == 23 && (t149 == 59 && (t150 == 59 && (t151 == 3))))))) = true
                      · rw [if_pos c26] at H
                        have c26b0 : (t145 == 1969 && (t146 == 12 && (t147 == 31 && (t148 == 23 && (t149 == 59 && (t150 == 59 && (t151 == 3))))))) = true := c26
                        (try (have c26b1 : decide (t145 = 1969 && (t146 == 12 && (t147 == 31 && (t148 == 23 && (t149 == 59 && (t150 == 59 && (t151 == 3))))))) = true := by simpa using c26))
                        (try (have c26b2 : (t145 == 1969 && (t146 == 12 && (t147 == 31 && (t148 == 23 && (t149 == 59 && (t150 == 59 && (t151 == 3))))))) = true := by simpa using c26))
                        clear c26
                        by_cases c27 : x2_0 = (-1)
                        · rw [if_pos c27] at H
                          have c27b0 : (x2_0 == (-1)) = true := beq_iff_eq.mpr c27
                          have c27b1 : (x2_0 != (-1)) = false := bne_eq_false_iff_eq.mpr c27
                          clear c27
                          by_cases c28 : x3_0 = true
                          · subst c28
                            have H1 : (if x6_13 = true then (none) else (if x8_18 = true then (none) else (if t141 = (-1) then (if t142 = 86399 then (if x11_22 = (-106751991167301) then (if x12_22 = 30592 then ((datetime_YearOf.f 0).bind fun t152 => (if t152 = 1970 then ((datetime_YearOf.f 9223372036854775807).bind fun t153 => (if t153 = 292277026596 then ((datetime_YearOf.f (-9223372036854775808)).bind fun t154 => (some (t154 == (-292277022657)))) else (none))) else (none))) else (none)) else (none)) else (none)) else (none)))) = some r := by rw [if_pos rfl] at H; exact H
                            clear H
                            have H := H1
                            clear H1
                            by_cases c29 : x6_13 = true
                            · subst c29
                              have H1 : (none) = some r := by rw [if_pos rfl] at H; exact H
                              clear H
                              have H := H1
                              clear H1
                              exact absurd H (by simp)
                            · replace c29 := Bool.eq_false_iff.mpr c29
                              subst c29
                              have H1 : (if x8_18 = true then (none) else (if t141 = (-1) then (if t142 = 86399 then (if x11_22 = (-106751991167301) then (if x12_22 = 30592 then ((datetime_YearOf.f 0).bind fun t152 => (if t152 = 1970 then ((datetime_YearOf.f 9223372036854775807).bind fun t153 => (if t153 = 292277026596 then ((datetime_YearOf.f (-9223372036854775808)).bind fun t154 => (some (t154 == (-292277022657)))) else (none))) else (none))) else (none)) else (none)) else (none)) else (none))) = some r := by rw [if_neg (show ¬ (false = true) by decide)] at H; exact H
                              clear H
                              have H := H1
                              clear H1
                              by_cases c30 : x8_18 = true
                              · subst c30
                                have H1 : (none) = some r := by rw [if_pos rfl] at H; exact H
                                clear H
                                have H := H1
                                clear H1
                                exact absurd H (by simp)
                              · replace c30 := Bool.eq_false_iff.mpr c30
                                subst c30
                                have H1 : (if t141 = (-1) then (if t142 = 86399 then (if x11_22 = (-106751991167301) then (if x12_22 = 30592 then ((datetime_YearOf.f 0).bind fun t152 => (if t152 = 1970 then ((datetime_YearOf.f 9223372036854775807).bind fun t153 => (if t153 = 292277026596 then ((datetime_YearOf.f (-9223372036854775808)).bind fun t154 => (some (t154 == (-292277022657)))) else (none))) else (none))) else (none)) else (none)) else (none)) else (none)) = some r := by rw [if_neg (show ¬ (false = true) by decide)] at H; exact H
                                clear H
                                have H := H1
                                clear H1
                                by_cases c31 : t141 = (-1)
                                · rw [if_pos c31] at H
                                  have c31b0 : (t141 == (-1)) = true := beq_iff_eq.mpr c31
                                  have c31b1 : (t141 != (-1)) = false := bne_eq_false_iff_eq.mpr c31
                                  clear c31
                                  by_cases c32 : t142 = 86399
                                  · rw [if_pos c32] at H
                                    have c32b0 : (t142 == 86399) = true := beq_iff_eq.mpr c32
                                    have c32b1 : (t142 != 86399) = false := bne_eq_false_iff_eq.mpr c32
                                    clear c32
                                    by_cases c33 : x11_22 = (-106751991167301)
                                    · rw [if_pos c33] at H
                                      have c33b0 : (x11_22 == (-106751991167301)) = true := beq_iff_eq.mpr c33
                                      have c33b1 : (x11_22 != (-106751991167301)) = false := bne_eq_false_iff_eq.mpr c33
                                      clear c33
                                      by_cases c34 : x12_22 = 30592
                                      · rw [if_pos c34] at H
                                        have c34b0 : (x12_22 == 30592) = true := beq_iff_eq.mpr c34
                                        have c34b1 : (x12_22 != 30592) = false := bne_eq_false_iff_eq.mpr c34
                                        clear c34
                                        replace H := Option.bind_eq_some_iff.mp H
                                        obtain ⟨t152, A350, H⟩ := H
                                        replace H : (if t152 = 1970 then ((datetime_YearOf.f 9223372036854775807).bind fun t153 => (if t153 = 292277026596 then ((datetime_YearOf.f (-9223372036854775808)).bind fun t154 => (some (t154 == (-292277022657)))) else (none))) else (none)) = some r := H
                                        have A35 := Aside0.mk A350
                                        clear A350
                                        by_cases c36 : t152 = 1970
                                        · rw [if_pos c36] at H
                                          have c36b0 : (t152 == 1970) = true := beq_iff_eq.mpr c36
                                          have c36b1 : (t152 != 1970) = false := bne_eq_false_iff_eq.mpr c36
                                          clear c36
                                          replace H := Option.bind_eq_some_iff.mp H
                                          obtain ⟨t153, A370, H⟩ := H
                                          replace H : (if t153 = 292277026596 then ((datetime_YearOf.f (-9223372036854775808)).bind fun t154 => (some (t154 == (-292277022657)))) else (none)) = some r := H
                                          have A37 := Aside0.mk A370
                                          clear A370
                                          by_cases c38 : t153 = 292277026596
                                          · rw [if_pos c38] at H
                                            have c38b0 : (t153 == 292277026596) = true := beq_iff_eq.mpr c38
                                            have c38b1 : (t153 != 292277026596) = false := bne_eq_false_iff_eq.mpr c38
                                            clear c38
                                            replace H := Option.bind_eq_some_iff.mp H
                                            obtain ⟨t154, A390, H⟩ := H
                                            replace H : (some (t154 == (-292277022657))) = some r := H
                                            have A39 := Aside0.mk A390
                                            clear A390
                                            obtain rfl := Option.some.inj H
                                            try go_wp2
                                            have n0_ := Aside0.mk (blk_drew BK133.out)
                                            have n1_ := Aside0.mk (blk_drew BK136.out)
                                            have n2_ := Aside0.mk (below_drew1 HB.out)
                                            clear BK133
                                            clear BK136
                                            clear HB
                                            have BK133 := n0_
                                            have BK136 := n1_
                                            have HB := n2_
                                            clear n0_ n1_ n2_
                                            refine start_ (n := 47) (S := fun w' => w'.cell? ⟨gb133, 0, none⟩ = some (.int .i64 1969) ∧ w'.cell? ⟨gb133, 1, none⟩ = some (.int .i64 12) ∧ w'.cell? ⟨gb133, 2, none⟩ = some (.int .i64 31) ∧ w'.cell? ⟨gb133, 3, none⟩ = some (.int .i64 23) ∧ w'.cell? ⟨gb133, 4, none⟩ = some (.int .i64 59) ∧ w'.cell? ⟨gb133, 5, none⟩ = some (.int .i64 59) ∧ w'.cell? ⟨gb133, 6, none⟩ = some (.int .i64 3)) (ds := []) #[false, false, false, false, false, false, false, false, false, false, false, false, false, false, false, false, false, false, false, false, false, false, false, false, false, false, false, false, false, false, false, false, false, false, false, false, false, false, false, false, false, false, false, false, false, false, false] (by kernel_rfl) rfl rfl ⟨(blk_cell BK133.out 0).trans rfl, (blk_cell BK133.out 1).trans rfl, (blk_cell BK133.out 2).trans rfl, (blk_cell BK133.out 3).trans rfl, (blk_cell BK133.out 4).trans rfl, (blk_cell BK133.out 5).trans rfl, (blk_cell BK133.out 6).trans rfl⟩ (fun hHeld => ?_); refine with_tabW zoneinfolaw05_awake.tab9 zoneinfolaw05_awake.bits9 (fun HT_ HW_ => ?_)
                                            generalize wc.drew = w40 at BK133 BK136 HB hHeld ⊢
                                            refine take_ (i := 1) (N := some 40) (v := ?_) (a' := ?_) #[false, true, false, false, false, false, false, false, false, false, false, false, false, false, false, false, false, false, false, false, false, false, false, false, false, false, false, false, false, false, false, false, false, false, false, false, false, false, false, false, false, false, false, false, false, false, false] rfl rfl (take_ofW HT_.out HW_.out (by kernel_rfl)) (fun _ _ _ h => h) (Or.inl ⟨by rfl, ?_⟩) hHeld ?_ ?_
                                            rotate_left
                                            · rintro w' ⟨s0, s1, s2, s3, s4, s5, s6⟩
                                              go_simp
                                              with_reducible rfl
                                            rotate_left
                                            · simp only [Act.put, List.setIfInBounds_toArray, List.set_cons_zero, List.set_cons_succ, i64_w, i32_w]
                                              rfl
                                            refine one_ (i := 0) (N := some 39) #[true, true, false, false, false, false, false, false, false, false, false, false, false, false, false, false, false, false, false, false, false, false, false, false, false, false, false, false, false, false, false, false, false, false, false, false, false, false, false, false, false, false, false, false, false, false, false] rfl rfl (one_of HT_.out (by kernel_rfl)) (by decide) (fun K hK => ?_)
                                            refine goes_ Tryd.func13 (by kernel_rfl) rfl #[.int .i64 (-1)] (by rfl) rfl rfl (by (try simp only [List.map_toArray, List.map_cons, List.map_nil]); first | done | rfl | (simp only [List.length_drop, List.length_take]; rfl)) ?_
                                            with_reducible refine (datetime_Of.calls (-1) t145 t146 t147 t148 t149 t150 t151 _ A25.out).mono ?_
                                            rintro e w41 ⟨rfl, hb⟩
                                            refine ⟨_, rfl, ?_⟩
                                            have n0_ := Aside0.mk (blk_below (g := gb133) (o := .cells #[.int .i64 1969, .int .i64 12, .int .i64 31, .int .i64 23, .int .i64 59, .int .i64 59, .int .i64 3] 23 (0, 0)) (by (with_reducible repeat (first | refine blk_drewN ?_ _ | refine blk_drew ?_ | refine blk_alloc ?_ _)); exact BK133.out) hb)
                                            have n1_ := Aside0.mk (blk_below (g := gb136) (o := .cells #[.int .i64 1969, .int .i64 12, .int .i64 31, .int .i64 23, .int .i64 59, .int .i64 59, .int .i64 x137006_6] 23 (0, 0)) (by (with_reducible repeat (first | refine blk_drewN ?_ _ | refine blk_drew ?_ | refine blk_alloc ?_ _)); exact BK136.out) hb)
                                            have n2_ := Aside0.mk (below_step (by repeat (first | (with_reducible first | exact HB.out | apply below_alloc | apply pw_below_drewN | apply below_drew1 | refine below_set ?_ GE133.out | refine below_set ?_ GE136.out) | exact HB.out)) hb)
                                            clear BK133
                                            clear BK136
                                            clear HB
                                            have BK133 := n0_
                                            have BK136 := n1_
                                            have HB := n2_
                                            clear n0_ n1_ n2_
                                            (try clear hb)
                                            (try clear hb2)
                                            (try clear hk)
                                            (try clear hi)
                                            refine hK.out _ _ ⟨(blk_cell BK133.out 0).trans rfl, (blk_cell BK133.out 1).trans rfl, (blk_cell BK133.out 2).trans rfl, (blk_cell BK133.out 3).trans rfl, (blk_cell BK133.out 4).trans rfl, (blk_cell BK133.out 5).trans rfl, (blk_cell BK133.out 6).trans rfl⟩ (fun hHeld => ?_)
                                            clear hK K
                                            refine norm_ (a' := ?_) ?_ ?_
                                            rotate_left
                                            · show Act.put _ (some 39) _ = _
                                              simp only [Act.put, List.setIfInBounds_toArray, List.set_cons_zero, List.set_cons_succ, i64_w, i32_w]
                                              rfl
                                            refine pure_ (i := 2) (N := some 41) (v := ?_) (a' := ?_) #[true, true, true, false, false, false, false, false, false, false, false, false, false, false, false, false, false, false, false, false, false, false, false, false, false, false, false, false, false, false, false, false, false, false, false, false, false, false, false, false, false, false, false, false, false, false, false] rfl rfl (any_of HT_.out (by kernel_rfl)) (fun _ _ _ h => h) (Or.inl ⟨by rfl, ?_⟩) ?_ ?_
                                            rotate_left
                                            · intro w'
                                              go_simp
                                              with_reducible rfl
                                            rotate_left
                                            · simp only [Act.put, List.setIfInBounds_toArray, List.set_cons_zero, List.set_cons_succ, i64_w, i32_w]
                                              rfl
                                            refine pure_ (i := 3) (N := some 42) (v := ?_) (a' := ?_) #[true, true, true, true, false, false, false, false, false, false, false, false, false, false, false, false, false, false, false, false, false, false, false, false, false, false, false, false, false, false, false, false, false, false, false, false, false, false, false, false, false, false, false, false, false, false, false] rfl rfl (any_of HT_.out (by kernel_rfl)) (fun _ _ _ h => h) (Or.inl ⟨by rfl, ?_⟩) ?_ ?_
                                            rotate_left
                                            · intro w'
                                              go_simp
                                              with_reducible rfl
                                            rotate_left
                                            · simp only [Act.put, List.setIfInBounds_toArray, List.set_cons_zero, List.set_cons_succ, i64_w, i32_w]
                                              rfl
                                            refine pure_ (i := 4) (N := some 43) (v := ?_) (a' := ?_) #[true, true, true, true, true, false, false, false, false, false, false, false, false, false, false, false, false, false, false, false, false, false, false, false, false, false, false, false, false, false, false, false, false, false, false, false, false, false, false, false, false, false, false, false, false, false, false] rfl rfl (any_of HT_.out (by kernel_rfl)) (fun _ _ _ h => h) (Or.inl ⟨by rfl, ?_⟩) ?_ ?_
                                            rotate_left
                                            · intro w'
                                              go_simp
                                              with_reducible rfl
                                            rotate_left
                                            · simp only [Act.put, List.setIfInBounds_toArray, List.set_cons_zero, List.set_cons_succ, i64_w, i32_w]
                                              rfl
                                            refine pure_ (i := 5) (N := some 44) (v := ?_) (a' := ?_) #[true, true, true, true, true, true, false, false, false, false, false, false, false, false, false, false, false, false, false, false, false, false, false, false, false, false, false, false, false, false, false, false, false, false, false, false, false, false, false, false, false, false, false, false, false, false, false] rfl rfl (any_of HT_.out (by kernel_rfl)) (fun _ _ _ h => h) (Or.inl ⟨by rfl, ?_⟩) ?_ ?_
                                            rotate_left
                                            · intro w'
                                              go_simp
                                              with_reducible rfl
                                            rotate_left
                                            · simp only [Act.put, List.setIfInBounds_toArray, List.set_cons_zero, List.set_cons_succ, i64_w, i32_w]
                                              rfl
                                            refine pure_ (i := 6) (N := some 45) (v := ?_) (a' := ?_) #[true, true, true, true, true, true, true, false, false, false, false, false, false, false, false, false, false, false, false, false, false, false, false, false, false, false, false, false, false, false, false, false, false, false, false, false, false, false, false, false, false, false, false, false, false, false, false] rfl rfl (any_of HT_.out (by kernel_rfl)) (fun _ _ _ h => h) (Or.inl ⟨by rfl, ?_⟩) ?_ ?_
                                            rotate_left
                                            · intro w'
                                              go_simp
                                              with_reducible rfl
                                            rotate_left
                                            · simp only [Act.put, List.setIfInBounds_toArray, List.set_cons_zero, List.set_cons_succ, i64_w, i32_w]
                                              rfl
                                            refine pure_ (i := 7) (N := some 46) (v := ?_) (a' := ?_) #[true, true, true, true, true, true, true, true, false, false, false, false, false, false, false, false, false, false, false, false, false, false, false, false, false, false, false, false, false, false, false, false, false, false, false, false, false, false, false, false, false, false, false, false, false, false, false] rfl rfl (any_of HT_.out (by kernel_rfl)) (fun _ _ _ h => h) (Or.inl ⟨by rfl, ?_⟩) ?_ ?_
                                            rotate_left
                                            · intro w'
                                              go_simp
                                              with_reducible rfl
                                            rotate_left
                                            · simp only [Act.put, List.setIfInBounds_toArray, List.set_cons_zero, List.set_cons_succ, i64_w, i32_w]
                                              rfl
                                            refine pure_ (i := 8) (N := some 47) (v := ?_) (a' := ?_) #[true, true, true, true, true, true, true, true, true, false, false, false, false, false, false, false, false, false, false, false, false, false, false, false, false, false, false, false, false, false, false, false, false, false, false, false, false, false, false, false, false, false, false, false, false, false, false] rfl rfl (any_of HT_.out (by kernel_rfl)) (fun _ _ _ h => h) (Or.inl ⟨by rfl, ?_⟩) ?_ ?_
                                            rotate_left
                                            · intro w'
                                              go_simp
                                              with_reducible rfl
                                            rotate_left
                                            · simp only [Act.put, List.setIfInBounds_toArray, List.set_cons_zero, List.set_cons_succ, i64_w, i32_w]
                                              rfl
                                            refine pure_ (i := 9) (N := some 48) (v := ?_) (a' := ?_) #[true, true, true, true, true, true, true, true, true, true, false, false, false, false, false, false, false, false, false, false, false, false, false, false, false, false, false, false, false, false, false, false, false, false, false, false, false, false, false, false, false, false, false, false, false, false, false] rfl rfl (any_of HT_.out (by kernel_rfl)) (fun _ _ _ h => h) (Or.inl ⟨by rfl, ?_⟩) ?_ ?_
                                            rotate_left
                                            · intro w'
                                              go_simp
                                              with_reducible rfl
                                            rotate_left
                                            · simp only [Act.put, List.setIfInBounds_toArray, List.set_cons_zero, List.set_cons_succ, i64_w, i32_w]
                                              rfl
                                            refine pure_ (i := 10) (N := some 49) (v := ?_) (a' := ?_) #[true, true, true, true, true, true, true, true, true, true, true, false, false, false, false, false, false, false, false, false, false, false, false, false, false, false, false, false, false, false, false, false, false, false, false, false, false, false, false, false, false, false, false, false, false, false, false] rfl rfl (any_of HT_.out (by kernel_rfl)) (fun _ _ _ h => h) (Or.inl ⟨by rfl, ?_⟩) ?_ ?_
                                            rotate_left
                                            · intro w'
                                              go_simp
                                              with_reducible rfl
                                            rotate_left
                                            · simp only [Act.put, List.setIfInBounds_toArray, List.set_cons_zero, List.set_cons_succ, i64_w, i32_w]
                                              rfl
                                            refine pure_ (i := 11) (N := some 50) (v := ?_) (a' := ?_) #[true, true, true, true, true, true, true, true, true, true, true, true, false, false, false, false, false, false, false, false, false, false, false, false, false, false, false, false, false, false, false, false, false, false, false, false, false, false, false, false, false, false, false, false, false, false, false] rfl rfl (any_of HT_.out (by kernel_rfl)) (fun _ _ _ h => h) (Or.inl ⟨by rfl, ?_⟩) ?_ ?_
                                            rotate_left
                                            · intro w'
                                              go_simp
                                              with_reducible rfl
                                            rotate_left
                                            · simp only [Act.put, List.setIfInBounds_toArray, List.set_cons_zero, List.set_cons_succ, i64_w, i32_w]
                                              rfl
                                            refine pure_ (i := 12) (N := some 51) (v := ?_) (a' := ?_) #[true, true, true, true, true, true, true, true, true, true, true, true, true, false, false, false, false, false, false, false, false, false, false, false, false, false, false, false, false, false, false, false, false, false, false, false, false, false, false, false, false, false, false, false, false, false, false] rfl rfl (any_of HT_.out (by kernel_rfl)) (fun _ _ _ h => h) (Or.inl ⟨by rfl, ?_⟩) ?_ ?_
                                            rotate_left
                                            · intro w'
                                              go_simp
                                              with_reducible rfl
                                            rotate_left
                                            · simp only [Act.put, List.setIfInBounds_toArray, List.set_cons_zero, List.set_cons_succ, i64_w, i32_w]
                                              rfl
                                            refine pure_ (i := 13) (N := some 52) (v := ?_) (a' := ?_) #[true, true, true, true, true, true, true, true, true, true, true, true, true, true, false, false, false, false, false, false, false, false, false, false, false, false, false, false, false, false, false, false, false, false, false, false, false, false, false, false, false, false, false, false, false, false, false] rfl rfl (any_of HT_.out (by kernel_rfl)) (fun _ _ _ h => h) (Or.inl ⟨by rfl, ?_⟩) ?_ ?_
                                            rotate_left
                                            · intro w'
                                              go_simp
                                              with_reducible rfl
                                            rotate_left
                                            · simp only [Act.put, List.setIfInBounds_toArray, List.set_cons_zero, List.set_cons_succ, i64_w, i32_w]
                                              rfl
                                            refine pure_ (i := 14) (N := some 53) (v := ?_) (a' := ?_) #[true, true, true, true, true, true, true, true, true, true, true, true, true, true, true, false, false, false, false, false, false, false, false, false, false, false, false, false, false, false, false, false, false, false, false, false, false, false, false, false, false, false, false, false, false, false, false] rfl rfl (any_of HT_.out (by kernel_rfl)) (fun _ _ _ h => h) (Or.inl ⟨by rfl, ?_⟩) ?_ ?_
                                            rotate_left
                                            · intro w'
                                              go_simp
                                              with_reducible rfl
                                            rotate_left
                                            · simp only [Act.put, List.setIfInBounds_toArray, List.set_cons_zero, List.set_cons_succ, i64_w, i32_w]
                                              rfl
                                            refine pure_ (i := 15) (N := some 54) (v := ?_) (a' := ?_) #[true, true, true, true, true, true, true, true, true, true, true, true, true, true, true, true, false, false, false, false, false, false, false, false, false, false, false, false, false, false, false, false, false, false, false, false, false, false, false, false, false, false, false, false, false, false, false] rfl rfl (any_of HT_.out (by kernel_rfl)) (fun _ _ _ h => h) (Or.inl ⟨by rfl, ?_⟩) ?_ ?_
                                            rotate_left
                                            · intro w'
                                              go_simp
                                              with_reducible rfl
                                            rotate_left
                                            · simp only [Act.put, List.setIfInBounds_toArray, List.set_cons_zero, List.set_cons_succ, i64_w, i32_w]
                                              rfl
                                            refine pure_ (i := 16) (N := some 55) (v := ?_) (a' := ?_) #[true, true, true, true, true, true, true, true, true, true, true, true, true, true, true, true, true, false, false, false, false, false, false, false, false, false, false, false, false, false, false, false, false, false, false, false, false, false, false, false, false, false, false, false, false, false, false] rfl rfl (any_of HT_.out (by kernel_rfl)) (fun _ _ _ h => h) (Or.inl ⟨by rfl, ?_⟩) ?_ ?_
                                            rotate_left
                                            · intro w'
                                              go_simp
                                              with_reducible rfl
                                            rotate_left
                                            · simp only [Act.put, List.setIfInBounds_toArray, List.set_cons_zero, List.set_cons_succ, i64_w, i32_w]
                                              rfl
                                            refine pure_ (i := 17) (N := some 56) (v := ?_) (a' := ?_) #[true, true, true, true, true, true, true, true, true, true, true, true, true, true, true, true, true, true, false, false, false, false, false, false, false, false, false, false, false, false, false, false, false, false, false, false, false, false, false, false, false, false, false, false, false, false, false] rfl rfl (any_of HT_.out (by kernel_rfl)) (fun _ _ _ h => h) (Or.inl ⟨by rfl, ?_⟩) ?_ ?_
                                            rotate_left
                                            · intro w'
                                              go_simp
                                              with_reducible rfl
                                            rotate_left
                                            · simp only [Act.put, List.setIfInBounds_toArray, List.set_cons_zero, List.set_cons_succ, i64_w, i32_w]
                                              rfl
                                            refine pure_ (i := 18) (N := some 57) (v := ?_) (a' := ?_) #[true, true, true, true, true, true, true, true, true, true, true, true, true, true, true, true, true, true, true, false, false, false, false, false, false, false, false, false, false, false, false, false, false, false, false, false, false, false, false, false, false, false, false, false, false, false, false] rfl rfl (any_of HT_.out (by kernel_rfl)) (fun _ _ _ h => h) (Or.inl ⟨by rfl, ?_⟩) ?_ ?_
                                            rotate_left
                                            · intro w'
                                              go_simp
                                              with_reducible rfl
                                            rotate_left
                                            · simp only [Act.put, List.setIfInBounds_toArray, List.set_cons_zero, List.set_cons_succ, i64_w, i32_w]
                                              rfl
                                            refine pure_ (i := 19) (N := some 58) (v := ?_) (a' := ?_) #[true, true, true, true, true, true, true, true, true, true, true, true, true, true, true, true, true, true, true, true, false, false, false, false, false, false, false, false, false, false, false, false, false, false, false, false, false, false, false, false, false, false, false, false, false, false, false] rfl rfl (any_of HT_.out (by kernel_rfl)) (fun _ _ _ h => h) (Or.inl ⟨by rfl, ?_⟩) ?_ ?_
                                            rotate_left
                                            · intro w'
                                              go_simp
                                              with_reducible rfl
                                            rotate_left
                                            · simp only [Act.put, List.setIfInBounds_toArray, List.set_cons_zero, List.set_cons_succ, i64_w, i32_w]
                                              rfl
                                            refine pure_ (i := 20) (N := some 59) (v := ?_) (a' := ?_) #[true, true, true, true, true, true, true, true, true, true, true, true, true, true, true, true, true, true, true, true, true, false, false, false, false, false, false, false, false, false, false, false, false, false, false, false, false, false, false, false, false, false, false, false, false, false, false] rfl rfl (any_of HT_.out (by kernel_rfl)) (fun _ _ _ h => h) (Or.inl ⟨by rfl, ?_⟩) ?_ ?_
                                            rotate_left
                                            · intro w'
                                              go_simp
                                              with_reducible rfl
                                            rotate_left
                                            · simp only [Act.put, List.setIfInBounds_toArray, List.set_cons_zero, List.set_cons_succ, i64_w, i32_w]
                                              rfl
                                            refine pure_ (i := 21) (N := some 60) (v := ?_) (a' := ?_) #[true, true, true, true, true, true, true, true, true, true, true, true, true, true, true, true, true, true, true, true, true, true, false, false, false, false, false, false, false, false, false, false, false, false, false, false, false, false, false, false, false, false, false, false, false, false, false] rfl rfl (any_of HT_.out (by kernel_rfl)) (fun _ _ _ h => h) (Or.inl ⟨by rfl, ?_⟩) ?_ ?_
                                            rotate_left
                                            · intro w'
                                              go_simp
                                              with_reducible rfl
                                            rotate_left
                                            · simp only [Act.put, List.setIfInBounds_toArray, List.set_cons_zero, List.set_cons_succ, i64_w, i32_w]
                                              rfl
                                            refine pure_ (i := 22) (N := some 61) (v := ?_) (a' := ?_) #[true, true, true, true, true, true, true, true, true, true, true, true, true, true, true, true, true, true, true, true, true, true, true, false, false, false, false, false, false, false, false, false, false, false, false, false, false, false, false, false, false, false, false, false, false, false, false] rfl rfl (any_of HT_.out (by kernel_rfl)) (fun _ _ _ h => h) (Or.inl ⟨by rfl, ?_⟩) ?_ ?_
                                            rotate_left
                                            · intro w'
                                              go_simp
                                              with_reducible rfl
                                            rotate_left
                                            · simp only [Act.put, List.setIfInBounds_toArray, List.set_cons_zero, List.set_cons_succ, i64_w, i32_w]
                                              rfl
                                            refine pure_ (i := 23) (N := some 62) (v := ?_) (a' := ?_) #[true, true, true, true, true, true, true, true, true, true, true, true, true, true, true, true, true, true, true, true, true, true, true, true, false, false, false, false, false, false, false, false, false, false, false, false, false, false, false, false, false, false, false, false, false, false, false] rfl rfl (any_of HT_.out (by kernel_rfl)) (fun _ _ _ h => h) (Or.inl ⟨by rfl, ?_⟩) ?_ ?_
                                            rotate_left
                                            · intro w'
                                              go_simp
                                              with_reducible rfl
                                            rotate_left
                                            · simp only [Act.put, List.setIfInBounds_toArray, List.set_cons_zero, List.set_cons_succ, i64_w, i32_w]
                                              rfl
                                            refine pure_ (i := 24) (N := some 63) (v := ?_) (a' := ?_) #[true, true, true, true, true, true, true, true, true, true, true, true, true, true, true, true, true, true, true, true, true, true, true, true, true, false, false, false, false, false, false, false, false, false, false, false, false, false, false, false, false, false, false, false, false, false, false] rfl rfl (any_of HT_.out (by kernel_rfl)) (fun _ _ _ h => h) (Or.inl ⟨by rfl, ?_⟩) ?_ ?_
                                            rotate_left
                                            · intro w'
                                              go_simp
                                              with_reducible rfl
                                            rotate_left
                                            · simp only [Act.put, List.setIfInBounds_toArray, List.set_cons_zero, List.set_cons_succ, i64_w, i32_w]
                                              rfl
                                            refine pure_ (i := 25) (N := some 64) (v := ?_) (a' := ?_) #[true, true, true, true, true, true, true, true, true, true, true, true, true, true, true, true, true, true, true, true, true, true, true, true, true, true, false, false, false, false, false, false, false, false, false, false, false, false, false, false, false, false, false, false, false, false, false] rfl rfl (any_of HT_.out (by kernel_rfl)) (fun _ _ _ h => h) (Or.inl ⟨by rfl, ?_⟩) ?_ ?_
                                            rotate_left
                                            · intro w'
                                              go_simp
                                              with_reducible rfl
                                            rotate_left
                                            · simp only [Act.put, List.setIfInBounds_toArray, List.set_cons_zero, List.set_cons_succ, i64_w, i32_w]
                                              rfl
                                            refine pure_ (i := 26) (N := some 65) (v := ?_) (a' := ?_) #[true, true, true, true, true, true, true, true, true, true, true, true, true, true, true, true, true, true, true, true, true, true, true, true, true, true, true, false, false, false, false, false, false, false, false, false, false, false, false, false, false, false, false, false, false, false, false] rfl rfl (any_of HT_.out (by kernel_rfl)) (fun _ _ _ h => h) (Or.inl ⟨by rfl, ?_⟩) ?_ ?_
                                            rotate_left
                                            · intro w'
                                              go_simp
                                              with_reducible rfl
                                            rotate_left
                                            · simp only [Act.put, List.setIfInBounds_toArray, List.set_cons_zero, List.set_cons_succ, i64_w, i32_w]
                                              rfl
                                            refine pure_ (i := 27) (N := some 66) (v := ?_) (a' := ?_) #[true, true, true, true, true, true, true, true, true, true, true, true, true, true, true, true, true, true, true, true, true, true, true, true, true, true, true, true, false, false, false, false, false, false, false, false, false, false, false, false, false, false, false, false, false, false, false] rfl rfl (any_of HT_.out (by kernel_rfl)) (fun _ _ _ h => h) (Or.inl ⟨by rfl, ?_⟩) ?_ ?_
                                            rotate_left
                                            · intro w'
                                              go_simp
                                              with_reducible rfl
                                            rotate_left
                                            · simp only [Act.put, List.setIfInBounds_toArray, List.set_cons_zero, List.set_cons_succ, i64_w, i32_w]
                                              rfl
                                            refine pure_ (i := 28) (N := some 67) (v := ?_) (a' := ?_) #[true, true, true, true, true, true, true, true, true, true, true, true, true, true, true, true, true, true, true, true, true, true, true, true, true, true, true, true, true, false, false, false, false, false, false, false, false, false, false, false, false, false, false, false, false, false, false] rfl rfl (any_of HT_.out (by kernel_rfl)) (fun _ _ _ h => h) (Or.inl ⟨by rfl, ?_⟩) ?_ ?_
                                            rotate_left
                                            · intro w'
                                              go_simp
                                              with_reducible rfl
                                            rotate_left
                                            · simp only [Act.put, List.setIfInBounds_toArray, List.set_cons_zero, List.set_cons_succ, i64_w, i32_w]
                                              rfl
                                            refine pure_ (i := 29) (N := some 68) (v := ?_) (a' := ?_) #[true, true, true, true, true, true, true, true, true, true, true, true, true, true, true, true, true, true, true, true, true, true, true, true, true, true, true, true, true, true, false, false, false, false, false, false, false, false, false, false, false, false, false, false, false, false, false] rfl rfl (any_of HT_.out (by kernel_rfl)) (fun _ _ _ h => h) (Or.inl ⟨by rfl, ?_⟩) ?_ ?_
                                            rotate_left
                                            · intro w'
                                              go_simp
                                              with_reducible rfl
                                            rotate_left
                                            · simp only [Act.put, List.setIfInBounds_toArray, List.set_cons_zero, List.set_cons_succ, i64_w, i32_w]
                                              rfl
                                            refine pure_ (i := 30) (N := some 69) (v := ?_) (a' := ?_) #[true, true, true, true, true, true, true, true, true, true, true, true, true, true, true, true, true, true, true, true, true, true, true, true, true, true, true, true, true, true, true, false, false, false, false, false, false, false, false, false, false, false, false, false, false, false, false] rfl rfl (any_of HT_.out (by kernel_rfl)) (fun _ _ _ h => h) (Or.inl ⟨by rfl, ?_⟩) ?_ ?_
                                            rotate_left
                                            · intro w'
                                              go_simp
                                              with_reducible rfl
                                            rotate_left
                                            · simp only [Act.put, List.setIfInBounds_toArray, List.set_cons_zero, List.set_cons_succ, i64_w, i32_w]
                                              rfl
                                            refine pure_ (i := 31) (N := some 70) (v := ?_) (a' := ?_) #[true, true, true, true, true, true, true, true, true, true, true, true, true, true, true, true, true, true, true, true, true, true, true, true, true, true, true, true, true, true, true, true, false, false, false, false, false, false, false, false, false, false, false, false, false, false, false] rfl rfl (any_of HT_.out (by kernel_rfl)) (fun _ _ _ h => h) (Or.inl ⟨by rfl, ?_⟩) ?_ ?_
                                            rotate_left
                                            · intro w'
                                              go_simp
                                              with_reducible rfl
                                            rotate_left
                                            · simp only [Act.put, List.setIfInBounds_toArray, List.set_cons_zero, List.set_cons_succ, i64_w, i32_w]
                                              rfl
                                            refine pure_ (i := 32) (N := some 71) (v := ?_) (a' := ?_) #[true, true, true, true, true, true, true, true, true, true, true, true, true, true, true, true, true, true, true, true, true, true, true, true, true, true, true, true, true, true, true, true, true, false, false, false, false, false, false, false, false, false, false, false, false, false, false] rfl rfl (any_of HT_.out (by kernel_rfl)) (fun _ _ _ h => h) (Or.inl ⟨by rfl, ?_⟩) ?_ ?_
                                            rotate_left
                                            · intro w'
                                              go_simp
                                              with_reducible rfl
                                            rotate_left
                                            · simp only [Act.put, List.setIfInBounds_toArray, List.set_cons_zero, List.set_cons_succ, i64_w, i32_w]
                                              rfl
                                            refine pure_ (i := 33) (N := some 72) (v := ?_) (a' := ?_) #[true, true, true, true, true, true, true, true, true, true, true, true, true, true, true, true, true, true, true, true, true, true, true, true, true, true, true, true, true, true, true, true, true, true, false, false, false, false, false, false, false, false, false, false, false, false, false] rfl rfl (any_of HT_.out (by kernel_rfl)) (fun _ _ _ h => h) (Or.inl ⟨by rfl, ?_⟩) ?_ ?_
                                            rotate_left
                                            · intro w'
                                              go_simp
                                              with_reducible rfl
                                            rotate_left
                                            · simp only [Act.put, List.setIfInBounds_toArray, List.set_cons_zero, List.set_cons_succ, i64_w, i32_w]
                                              rfl
                                            refine pure_ (i := 34) (N := some 73) (v := ?_) (a' := ?_) #[true, true, true, true, true, true, true, true, true, true, true, true, true, true, true, true, true, true, true, true, true, true, true, true, true, true, true, true, true, true, true, true, true, true, true, false, false, false, false, false, false, false, false, false, false, false, false] rfl rfl (any_of HT_.out (by kernel_rfl)) (fun _ _ _ h => h) (Or.inl ⟨by rfl, ?_⟩) ?_ ?_
                                            rotate_left
                                            · intro w'
                                              go_simp
                                              with_reducible rfl
                                            rotate_left
                                            · simp only [Act.put, List.setIfInBounds_toArray, List.set_cons_zero, List.set_cons_succ, i64_w, i32_w]
                                              rfl
                                            refine one_ (i := 35) (N := some 74) #[true, true, true, true, true, true, true, true, true, true, true, true, true, true, true, true, true, true, true, true, true, true, true, true, true, true, true, true, true, true, true, true, true, true, true, true, false, false, false, false, false, false, false, false, false, false, false] rfl rfl (one_of HT_.out (by kernel_rfl)) (by decide) (fun K hK => ?_)
                                            refine goes_ Tryd.func15 (by kernel_rfl) rfl #[.int .i64 0] (by rfl) rfl rfl (by (try simp only [List.map_toArray, List.map_cons, List.map_nil]); first | done | rfl | (simp only [List.length_drop, List.length_take]; rfl)) ?_
                                            with_reducible refine (datetime_YearOf.calls 0 t152 _ A35.out).mono ?_
                                            rintro e w42 ⟨rfl, hb⟩
                                            refine ⟨_, rfl, ?_⟩
                                            have n0_ := Aside0.mk (blk_below (g := gb133) (o := .cells #[.int .i64 1969, .int .i64 12, .int .i64 31, .int .i64 23, .int .i64 59, .int .i64 59, .int .i64 3] 23 (0, 0)) (by (with_reducible repeat (first | refine blk_drewN ?_ _ | refine blk_drew ?_ | refine blk_alloc ?_ _)); exact BK133.out) hb)
                                            have n1_ := Aside0.mk (blk_below (g := gb136) (o := .cells #[.int .i64 1969, .int .i64 12, .int .i64 31, .int .i64 23, .int .i64 59, .int .i64 59, .int .i64 x137006_6] 23 (0, 0)) (by (with_reducible repeat (first | refine blk_drewN ?_ _ | refine blk_drew ?_ | refine blk_alloc ?_ _)); exact BK136.out) hb)
                                            have n2_ := Aside0.mk (below_step (by repeat (first | (with_reducible first | exact HB.out | apply below_alloc | apply pw_below_drewN | apply below_drew1 | refine below_set ?_ GE133.out | refine below_set ?_ GE136.out) | exact HB.out)) hb)
                                            clear BK133
                                            clear BK136
                                            clear HB
                                            have BK133 := n0_
                                            have BK136 := n1_
                                            have HB := n2_
                                            clear n0_ n1_ n2_
                                            (try clear hb)
                                            (try clear hb2)
                                            (try clear hk)
                                            (try clear hi)
                                            refine hK.out _ _ ⟨(blk_cell BK133.out 0).trans rfl, (blk_cell BK133.out 1).trans rfl, (blk_cell BK133.out 2).trans rfl, (blk_cell BK133.out 3).trans rfl, (blk_cell BK133.out 4).trans rfl, (blk_cell BK133.out 5).trans rfl, (blk_cell BK133.out 6).trans rfl⟩ (fun hHeld => ?_)
                                            clear hK K
                                            refine norm_ (a' := ?_) ?_ ?_
                                            rotate_left
                                            · show Act.put _ (some 74) _ = _
                                              simp only [Act.put, List.setIfInBounds_toArray, List.set_cons_zero, List.set_cons_succ, i64_w, i32_w]
                                              rfl
                                            refine pure_ (i := 36) (N := some 75) (v := ?_) (a' := ?_) #[true, true, true, true, true, true, true, true, true, true, true, true, true, true, true, true, true, true, true, true, true, true, true, true, true, true, true, true, true, true, true, true, true, true, true, true, true, false, false, false, false, false, false, false, false, false, false] rfl rfl (any_of HT_.out (by kernel_rfl)) (fun _ _ _ h => h) (Or.inl ⟨by rfl, ?_⟩) ?_ ?_
                                            rotate_left
                                            · intro w'
                                              go_simp
                                              with_reducible rfl
                                            rotate_left
                                            · simp only [Act.put, List.setIfInBounds_toArray, List.set_cons_zero, List.set_cons_succ, i64_w, i32_w]
                                              rfl
                                            refine pure_ (i := 37) (N := some 76) (v := ?_) (a' := ?_) #[true, true, true, true, true, true, true, true, true, true, true, true, true, true, true, true, true, true, true, true, true, true, true, true, true, true, true, true, true, true, true, true, true, true, true, true, true, true, false, false, false, false, false, false, false, false, false] rfl rfl (any_of HT_.out (by kernel_rfl)) (fun _ _ _ h => h) (Or.inl ⟨by rfl, ?_⟩) ?_ ?_
                                            rotate_left
                                            · intro w'
                                              go_simp
                                              with_reducible rfl
                                            rotate_left
                                            · simp only [Act.put, List.setIfInBounds_toArray, List.set_cons_zero, List.set_cons_succ, i64_w, i32_w]
                                              rfl
                                            refine pure_ (i := 38) (N := some 77) (v := ?_) (a' := ?_) #[true, true, true, true, true, true, true, true, true, true, true, true, true, true, true, true, true, true, true, true, true, true, true, true, true, true, true, true, true, true, true, true, true, true, true, true, true, true, true, false, false, false, false, false, false, false, false] rfl rfl (any_of HT_.out (by kernel_rfl)) (fun _ _ _ h => h) (Or.inl ⟨by rfl, ?_⟩) ?_ ?_
                                            rotate_left
                                            · intro w'
                                              go_simp
                                              with_reducible rfl
                                            rotate_left
                                            · simp only [Act.put, List.setIfInBounds_toArray, List.set_cons_zero, List.set_cons_succ, i64_w, i32_w]
                                              rfl
                                            refine one_ (i := 39) (N := some 78) #[true, true, true, true, true, true, true, true, true, true, true, true, true, true, true, true, true, true, true, true, true, true, true, true, true, true, true, true, true, true, true, true, true, true, true, true, true, true, true, true, false, false, false, false, false, false, false] rfl rfl (one_of HT_.out (by kernel_rfl)) (by decide) (fun K hK => ?_)
                                            refine goes_ Tryd.func15 (by kernel_rfl) rfl #[.int .i64 9223372036854775807] (by rfl) rfl rfl (by (try simp only [List.map_toArray, List.map_cons, List.map_nil]); first | done | rfl | (simp only [List.length_drop, List.length_take]; rfl)) ?_
                                            with_reducible refine (datetime_YearOf.calls 9223372036854775807 t153 _ A37.out).mono ?_
                                            rintro e w43 ⟨rfl, hb⟩
                                            refine ⟨_, rfl, ?_⟩
                                            have n0_ := Aside0.mk (blk_below (g := gb133) (o := .cells #[.int .i64 1969, .int .i64 12, .int .i64 31, .int .i64 23, .int .i64 59, .int .i64 59, .int .i64 3] 23 (0, 0)) (by (with_reducible repeat (first | refine blk_drewN ?_ _ | refine blk_drew ?_ | refine blk_alloc ?_ _)); exact BK133.out) hb)
                                            have n1_ := Aside0.mk (blk_below (g := gb136) (o := .cells #[.int .i64 1969, .int .i64 12, .int .i64 31, .int .i64 23, .int .i64 59, .int .i64 59, .int .i64 x137006_6] 23 (0, 0)) (by (with_reducible repeat (first | refine blk_drewN ?_ _ | refine blk_drew ?_ | refine blk_alloc ?_ _)); exact BK136.out) hb)
                                            have n2_ := Aside0.mk (below_step (by repeat (first | (with_reducible first | exact HB.out | apply below_alloc | apply pw_below_drewN | apply below_drew1 | refine below_set ?_ GE133.out | refine below_set ?_ GE136.out) | exact HB.out)) hb)
                                            clear BK133
                                            clear BK136
                                            clear HB
                                            have BK133 := n0_
                                            have BK136 := n1_
                                            have HB := n2_
                                            clear n0_ n1_ n2_
                                            (try clear hb)
                                            (try clear hb2)
                                            (try clear hk)
                                            (try clear hi)
                                            refine hK.out _ _ ⟨(blk_cell BK133.out 0).trans rfl, (blk_cell BK133.out 1).trans rfl, (blk_cell BK133.out 2).trans rfl, (blk_cell BK133.out 3).trans rfl, (blk_cell BK133.out 4).trans rfl, (blk_cell BK133.out 5).trans rfl, (blk_cell BK133.out 6).trans rfl⟩ (fun hHeld => ?_)
                                            clear hK K
                                            refine norm_ (a' := ?_) ?_ ?_
                                            rotate_left
                                            · show Act.put _ (some 78) _ = _
                                              simp only [Act.put, List.setIfInBounds_toArray, List.set_cons_zero, List.set_cons_succ, i64_w, i32_w]
                                              rfl
                                            refine pure_ (i := 40) (N := some 79) (v := ?_) (a' := ?_) #[true, true, true, true, true, true, true, true, true, true, true, true, true, true, true, true, true, true, true, true, true, true, true, true, true, true, true, true, true, true, true, true, true, true, true, true, true, true, true, true, true, false, false, false, false, false, false] rfl rfl (any_of HT_.out (by kernel_rfl)) (fun _ _ _ h => h) (Or.inl ⟨by rfl, ?_⟩) ?_ ?_
                                            rotate_left
                                            · intro w'
                                              go_simp
                                              with_reducible rfl
                                            rotate_left
                                            · simp only [Act.put, List.setIfInBounds_toArray, List.set_cons_zero, List.set_cons_succ, i64_w, i32_w]
                                              rfl
                                            refine pure_ (i := 41) (N := some 80) (v := ?_) (a' := ?_) #[true, true, true, true, true, true, true, true, true, true, true, true, true, true, true, true, true, true, true, true, true, true, true, true, true, true, true, true, true, true, true, true, true, true, true, true, true, true, true, true, true, true, false, false, false, false, false] rfl rfl (any_of HT_.out (by kernel_rfl)) (fun _ _ _ h => h) (Or.inl ⟨by rfl, ?_⟩) ?_ ?_
                                            rotate_left
                                            · intro w'
                                              go_simp
                                              with_reducible rfl
                                            rotate_left
                                            · simp only [Act.put, List.setIfInBounds_toArray, List.set_cons_zero, List.set_cons_succ, i64_w, i32_w]
                                              rfl
                                            refine pure_ (i := 42) (N := some 81) (v := ?_) (a' := ?_) #[true, true, true, true, true, true, true, true, true, true, true, true, true, true, true, true, true, true, true, true, true, true, true, true, true, true, true, true, true, true, true, true, true, true, true, true, true, true, true, true, true, true, true, false, false, false, false] rfl rfl (any_of HT_.out (by kernel_rfl)) (fun _ _ _ h => h) (Or.inl ⟨by rfl, ?_⟩) ?_ ?_
                                            rotate_left
                                            · intro w'
                                              go_simp
                                              with_reducible rfl
                                            rotate_left
                                            · simp only [Act.put, List.setIfInBounds_toArray, List.set_cons_zero, List.set_cons_succ, i64_w, i32_w]
                                              rfl
                                            refine one_ (i := 43) (N := some 82) #[true, true, true, true, true, true, true, true, true, true, true, true, true, true, true, true, true, true, true, true, true, true, true, true, true, true, true, true, true, true, true, true, true, true, true, true, true, true, true, true, true, true, true, true, false, false, false] rfl rfl (one_of HT_.out (by kernel_rfl)) (by decide) (fun K hK => ?_)
                                            refine goes_ Tryd.func15 (by kernel_rfl) rfl #[.int .i64 (-9223372036854775808)] (by rfl) rfl rfl (by (try simp only [List.map_toArray, List.map_cons, List.map_nil]); first | done | rfl | (simp only [List.length_drop, List.length_take]; rfl)) ?_
                                            with_reducible refine (datetime_YearOf.calls (-9223372036854775808) t154 _ A39.out).mono ?_
                                            rintro e w44 ⟨rfl, hb⟩
                                            refine ⟨_, rfl, ?_⟩
                                            have n0_ := Aside0.mk (blk_below (g := gb133) (o := .cells #[.int .i64 1969, .int .i64 12, .int .i64 31, .int .i64 23, .int .i64 59, .int .i64 59, .int .i64 3] 23 (0, 0)) (by (with_reducible repeat (first | refine blk_drewN ?_ _ | refine blk_drew ?_ | refine blk_alloc ?_ _)); exact BK133.out) hb)
                                            have n1_ := Aside0.mk (blk_below (g := gb136) (o := .cells #[.int .i64 1969, .int .i64 12, .int .i64 31, .int .i64 23, .int .i64 59, .int .i64 59, .int .i64 x137006_6] 23 (0, 0)) (by (with_reducible repeat (first | refine blk_drewN ?_ _ | refine blk_drew ?_ | refine blk_alloc ?_ _)); exact BK136.out) hb)
                                            have n2_ := Aside0.mk (below_step (by repeat (first | (with_reducible first | exact HB.out | apply below_alloc | apply pw_below_drewN | apply below_drew1 | refine below_set ?_ GE133.out | refine below_set ?_ GE136.out) | exact HB.out)) hb)
                                            clear BK133
                                            clear BK136
                                            clear HB
                                            have BK133 := n0_
                                            have BK136 := n1_
                                            have HB := n2_
                                            clear n0_ n1_ n2_
                                            (try clear hb)
                                            (try clear hb2)
                                            (try clear hk)
                                            (try clear hi)
                                            refine hK.out _ _ ⟨(blk_cell BK133.out 0).trans rfl, (blk_cell BK133.out 1).trans rfl, (blk_cell BK133.out 2).trans rfl, (blk_cell BK133.out 3).trans rfl, (blk_cell BK133.out 4).trans rfl, (blk_cell BK133.out 5).trans rfl, (blk_cell BK133.out 6).trans rfl⟩ (fun hHeld => ?_)
                                            clear hK K
                                            refine norm_ (a' := ?_) ?_ ?_
                                            rotate_left
                                            · show Act.put _ (some 82) _ = _
                                              simp only [Act.put, List.setIfInBounds_toArray, List.set_cons_zero, List.set_cons_succ, i64_w, i32_w]
                                              rfl
                                            refine pure_ (i := 44) (N := some 83) (v := ?_) (a' := ?_) #[true, true, true, true, true, true, true, true, true, true, true, true, true, true, true, true, true, true, true, true, true, true, true, true, true, true, true, true, true, true, true, true, true, true, true, true, true, true, true, true, true, true, true, true, true, false, false] rfl rfl (any_of HT_.out (by kernel_rfl)) (fun _ _ _ h => h) (Or.inl ⟨by rfl, ?_⟩) ?_ ?_
                                            rotate_left
                                            · intro w'
                                              go_simp
                                              with_reducible rfl
                                            rotate_left
                                            · simp only [Act.put, List.setIfInBounds_toArray, List.set_cons_zero, List.set_cons_succ, i64_w, i32_w]
                                              rfl
                                            refine pure_ (i := 45) (N := some 84) (v := ?_) (a' := ?_) #[true, true, true, true, true, true, true, true, true, true, true, true, true, true, true, true, true, true, true, true, true, true, true, true, true, true, true, true, true, true, true, true, true, true, true, true, true, true, true, true, true, true, true, true, true, true, false] rfl rfl (any_of HT_.out (by kernel_rfl)) (fun _ _ _ h => h) (Or.inl ⟨by rfl, ?_⟩) ?_ ?_
                                            rotate_left
                                            · intro w'
                                              go_simp
                                              with_reducible rfl
                                            rotate_left
                                            · simp only [Act.put, List.setIfInBounds_toArray, List.set_cons_zero, List.set_cons_succ, i64_w, i32_w]
                                              rfl
                                            refine pure_ (i := 46) (N := some 0) (v := ?_) (a' := ?_) #[true, true, true, true, true, true, true, true, true, true, true, true, true, true, true, true, true, true, true, true, true, true, true, true, true, true, true, true, true, true, true, true, true, true, true, true, true, true, true, true, true, true, true, true, true, true, true] rfl rfl (any_of HT_.out (by kernel_rfl)) (fun _ _ _ h => h) (Or.inl ⟨by rfl, ?_⟩) ?_ ?_
                                            rotate_left
                                            · intro w'
                                              go_simp
                                              with_reducible rfl
                                            rotate_left
                                            · simp only [Act.put, List.setIfInBounds_toArray, List.set_cons_zero, List.set_cons_succ, i64_w, i32_w]
                                              rfl
                                            refine done_ (done_of HT_.out (by kernel_rfl)) ?_
                                            try go_wp2
                                            go_ret
                                            exact ⟨by first | rfl | (simp [errW_none, errW_some] <;> rfl) | (simp [*, errW_none, errW_some] <;> rfl), by repeat (first | (with_reducible first | exact HB.out | apply below_alloc | apply pw_below_drewN | apply below_drew1 | refine below_set ?_ GE133.out | refine below_set ?_ GE136.out) | exact HB.out)⟩
                                          · rw [if_neg c38] at H
                                            exact absurd H (by simp)
                                        · rw [if_neg c36] at H
                                          exact absurd H (by simp)
                                      · rw [if_neg c34] at H
                                        exact absurd H (by simp)
                                    · rw [if_neg c33] at H
                                      exact absurd H (by simp)
                                  · rw [if_neg c32] at H
                                    exact absurd H (by simp)
                                · rw [if_neg c31] at H
                                  exact absurd H (by simp)
                          · replace c28 := Bool.eq_false_iff.mpr c28
                            subst c28
                            have H1 : (none) = some r := by rw [if_neg (show ¬ (false = true) by decide)] at H; exact H
                            clear H
                            have H := H1
                            clear H1
                            exact absurd H (by simp)
                        · rw [if_neg c27] at H
                          exact absurd H (by simp)
                      · rw [if_neg c26] at H
                        exact absurd H (by simp)

end Go.Proofs.YtmfffkmnddeajaaDoor.G
