/- Written by a program of this session for this seat: contracts of the functions that its laws reach, or the row of a law over its plain part. -/
import Derived.Test.YtchlggnbgabddaaGx0
import Derived.Test.YtchlggnbgabddaaGx5
import Derived.Test.YtchlggnbgabddaaGx15
import Derived.Test.YtchlggnbgabddaaGx17
import Derived.Test.YtchlggnbgabddaaGx18
import Derived.Test.YtchlggnbgabddaaGx23
namespace Go.Proofs.Ytchlggnbgabddaa.G
open Go.RowKit Go.Proofs.YtchlggnbgabddaaW.PrintWords Go.Proofs.YtchlggnbgabddaaW.PrintLast Go.Proofs.YtchlggnbgabddaaW.PrintMore
attribute [local go_sem] max2_int min2_int max_two min_two max_three min_three max_four min_four   -- for this text's walks alone
set_option linter.unusedVariables false
set_option linter.unusedSimpArgs false

/-! ### zoneinfolaw12_DesigsBuildThenName: function 4 -/
mutual
def zoneinfolaw12_DesigsBuildThenName.j0 : Nat → List ByteArray → Bool → Option (Bool)
  | 0, _, _ => none
  | k + 1, x0, x17 => if x17 = true then ((zoneinfolaw12_awake.f k).bind fun t215 => (some t215)) else ((desigs_Build.f x0).bind fun bt216 => ((desigs_Valid.f k bt216.1).bind fun t222 => (if t222 = true then (zoneinfolaw12_DesigsBuildThenName.j1 k x0 bt216.1 bt216.2 ((bt216.2.length : Int) != (x0.length : Int))) else (none))))
def zoneinfolaw12_DesigsBuildThenName.j1 : Nat → List ByteArray → List Int → List Int → Bool → Option (Bool)
  | 0, _, _, _, _ => none
  | k + 1, x0, x3, x4, x33 => if x33 = true then (none) else (zoneinfolaw12_DesigsBuildThenName.l0 k x0 x3 x4 0 0)
def zoneinfolaw12_DesigsBuildThenName.l0 : Nat → List ByteArray → List Int → List Int → Int → Int → Option (Bool)
  | 0, _, _, _, _, _ => none
  | k + 1, x0, x3, x4, x5, x6 => if x6 < (x0.length : Int) then (if 0 ≤ x6 then (if x6 < (x4.length : Int) then ((desigs_Name.f x3 (rd x4 x6)).bind fun bt224 => (if bt224.2 = true then (zoneinfolaw12_DesigsBuildThenName.j3 k x0 x3 x4 x5 x6 (bt224.1.toList != (rdOf ByteArray.empty x0 x6).toList)) else (none))) else (none)) else (none)) else (some ((x3.length : Int) == (mx x5 1)))
def zoneinfolaw12_DesigsBuildThenName.j3 : Nat → List ByteArray → List Int → List Int → Int → Int → Bool → Option (Bool)
  | 0, _, _, _, _, _, _ => none
  | k + 1, x0, x3, x4, x5, x6, x58 => if x58 = true then (none) else (zoneinfolaw12_DesigsBuildThenName.l1 k x0 x3 x4 x5 x6 false 0)
def zoneinfolaw12_DesigsBuildThenName.l1 : Nat → List ByteArray → List Int → List Int → Int → Int → Bool → Int → Option (Bool)
  | 0, _, _, _, _, _, _, _ => none
  | k + 1, x0, x3, x4, x5, x6, x9, x10 => if x10 < x6 then (if 0 ≤ x10 then (if x10 < (x4.length : Int) then (if 0 ≤ x6 then (if x6 < (x4.length : Int) then (if x10 < (x0.length : Int) then (if x6 < (x0.length : Int) then (if (((rd x4 x10) == (rd x4 x6)) != ((rdOf ByteArray.empty x0 x10).toList == (rdOf ByteArray.empty x0 x6).toList)) = true then (none) else (if x9 = true then (zoneinfolaw12_DesigsBuildThenName.l1 k x0 x3 x4 x5 x6 true (wrap64 (x10 + 1))) else (zoneinfolaw12_DesigsBuildThenName.l1 k x0 x3 x4 x5 x6 ((rdOf ByteArray.empty x0 x10).toList == (rdOf ByteArray.empty x0 x6).toList) (wrap64 (x10 + 1))))) else (none)) else (none)) else (none)) else (none)) else (none)) else (none)) else (if x9 = true then (zoneinfolaw12_DesigsBuildThenName.l0 k x0 x3 x4 x5 (wrap64 (x6 + 1))) else (if 0 ≤ x6 then (if x6 < (x0.length : Int) then (zoneinfolaw12_DesigsBuildThenName.l0 k x0 x3 x4 (wrap64 ((wrap64 (x5 + ((rdOf ByteArray.empty x0 x6).size : Int))) + 1)) (wrap64 (x6 + 1))) else (none)) else (none)))
end
def zoneinfolaw12_DesigsBuildThenName.f (k : Nat) (l0 : List ByteArray) : Option (Bool) := (zoneinfolaw12_awake.f k).bind fun t213 => (if t213 = true then ((zoneinforef12_Plain.f k l0).bind fun t214 => (zoneinfolaw12_DesigsBuildThenName.j0 k l0 (!t214))) else (zoneinfolaw12_DesigsBuildThenName.j0 k l0 true))
theorem zoneinfolaw12_DesigsBuildThenName.mono_l : ∀ k, (∀ y0 y1, LeO (zoneinfolaw12_DesigsBuildThenName.j0 k y0 y1) (zoneinfolaw12_DesigsBuildThenName.j0 (k + 1) y0 y1)) ∧ (∀ y0 y1 y2 y3, LeO (zoneinfolaw12_DesigsBuildThenName.j1 k y0 y1 y2 y3) (zoneinfolaw12_DesigsBuildThenName.j1 (k + 1) y0 y1 y2 y3)) ∧ (∀ y0 y1 y2 y3 y4, LeO (zoneinfolaw12_DesigsBuildThenName.l0 k y0 y1 y2 y3 y4) (zoneinfolaw12_DesigsBuildThenName.l0 (k + 1) y0 y1 y2 y3 y4)) ∧ (∀ y0 y1 y2 y3 y4 y5, LeO (zoneinfolaw12_DesigsBuildThenName.j3 k y0 y1 y2 y3 y4 y5) (zoneinfolaw12_DesigsBuildThenName.j3 (k + 1) y0 y1 y2 y3 y4 y5)) ∧ (∀ y0 y1 y2 y3 y4 y5 y6, LeO (zoneinfolaw12_DesigsBuildThenName.l1 k y0 y1 y2 y3 y4 y5 y6) (zoneinfolaw12_DesigsBuildThenName.l1 (k + 1) y0 y1 y2 y3 y4 y5 y6))
  | 0 => ⟨fun _ _ r h => by simp [zoneinfolaw12_DesigsBuildThenName.j0] at h, fun _ _ _ _ r h => by simp [zoneinfolaw12_DesigsBuildThenName.j1] at h, fun _ _ _ _ _ r h => by simp [zoneinfolaw12_DesigsBuildThenName.l0] at h, fun _ _ _ _ _ _ r h => by simp [zoneinfolaw12_DesigsBuildThenName.j3] at h, fun _ _ _ _ _ _ _ r h => by simp [zoneinfolaw12_DesigsBuildThenName.l1] at h⟩
  | k + 1 => by
    obtain ⟨ih0, ih1, ih2, ih3, ih4⟩ := zoneinfolaw12_DesigsBuildThenName.mono_l k
    refine ⟨?_, ?_, ?_, ?_, ?_⟩
    · intro y0 y1
      unfold zoneinfolaw12_DesigsBuildThenName.j0
      repeat' first
      | (with_reducible exact ih0 _ _)
      | (with_reducible exact ih1 _ _ _ _)
      | (with_reducible exact ih2 _ _ _ _ _)
      | (with_reducible exact ih3 _ _ _ _ _ _)
      | (with_reducible exact ih4 _ _ _ _ _ _ _)
      | (with_reducible exact desigs_Valid.mono _ _)
      | (with_reducible exact zoneinfolaw12_awake.mono _)
      | (with_reducible exact zoneinforef12_Plain.mono _ _)
      | (with_reducible exact LeO.refl _)
      | (with_reducible exact LeO.none _)
      | (with_reducible refine LeO.ite ?_ ?_)
      | (with_reducible refine LeO.bind ?_ (fun _ => ?_))
      | exact ih0 _ _
      | exact ih1 _ _ _ _
      | exact ih2 _ _ _ _ _
      | exact ih3 _ _ _ _ _ _
      | exact ih4 _ _ _ _ _ _ _
      | exact desigs_Valid.mono _ _
      | exact zoneinfolaw12_awake.mono _
      | exact zoneinforef12_Plain.mono _ _
      | exact LeO.none _
      | refine LeO.ite ?_ ?_
      | refine LeO.bind ?_ (fun _ => ?_)
    · intro y0 y1 y2 y3
      unfold zoneinfolaw12_DesigsBuildThenName.j1
      repeat' first
      | (with_reducible exact ih0 _ _)
      | (with_reducible exact ih1 _ _ _ _)
      | (with_reducible exact ih2 _ _ _ _ _)
      | (with_reducible exact ih3 _ _ _ _ _ _)
      | (with_reducible exact ih4 _ _ _ _ _ _ _)
      | (with_reducible exact desigs_Valid.mono _ _)
      | (with_reducible exact zoneinfolaw12_awake.mono _)
      | (with_reducible exact zoneinforef12_Plain.mono _ _)
      | (with_reducible exact LeO.refl _)
      | (with_reducible exact LeO.none _)
      | (with_reducible refine LeO.ite ?_ ?_)
      | (with_reducible refine LeO.bind ?_ (fun _ => ?_))
      | exact ih0 _ _
      | exact ih1 _ _ _ _
      | exact ih2 _ _ _ _ _
      | exact ih3 _ _ _ _ _ _
      | exact ih4 _ _ _ _ _ _ _
      | exact desigs_Valid.mono _ _
      | exact zoneinfolaw12_awake.mono _
      | exact zoneinforef12_Plain.mono _ _
      | exact LeO.none _
      | refine LeO.ite ?_ ?_
      | refine LeO.bind ?_ (fun _ => ?_)
    · intro y0 y1 y2 y3 y4
      unfold zoneinfolaw12_DesigsBuildThenName.l0
      repeat' first
      | (with_reducible exact ih0 _ _)
      | (with_reducible exact ih1 _ _ _ _)
      | (with_reducible exact ih2 _ _ _ _ _)
      | (with_reducible exact ih3 _ _ _ _ _ _)
      | (with_reducible exact ih4 _ _ _ _ _ _ _)
      | (with_reducible exact desigs_Valid.mono _ _)
      | (with_reducible exact zoneinfolaw12_awake.mono _)
      | (with_reducible exact zoneinforef12_Plain.mono _ _)
      | (with_reducible exact LeO.refl _)
      | (with_reducible exact LeO.none _)
      | (with_reducible refine LeO.ite ?_ ?_)
      | (with_reducible refine LeO.bind ?_ (fun _ => ?_))
      | exact ih0 _ _
      | exact ih1 _ _ _ _
      | exact ih2 _ _ _ _ _
      | exact ih3 _ _ _ _ _ _
      | exact ih4 _ _ _ _ _ _ _
      | exact desigs_Valid.mono _ _
      | exact zoneinfolaw12_awake.mono _
      | exact zoneinforef12_Plain.mono _ _
      | exact LeO.none _
      | refine LeO.ite ?_ ?_
      | refine LeO.bind ?_ (fun _ => ?_)
    · intro y0 y1 y2 y3 y4 y5
      unfold zoneinfolaw12_DesigsBuildThenName.j3
      repeat' first
      | (with_reducible exact ih0 _ _)
      | (with_reducible exact ih1 _ _ _ _)
      | (with_reducible exact ih2 _ _ _ _ _)
      | (with_reducible exact ih3 _ _ _ _ _ _)
      | (with_reducible exact ih4 _ _ _ _ _ _ _)
      | (with_reducible exact desigs_Valid.mono _ _)
      | (with_reducible exact zoneinfolaw12_awake.mono _)
      | (with_reducible exact zoneinforef12_Plain.mono _ _)
      | (with_reducible exact LeO.refl _)
      | (with_reducible exact LeO.none _)
      | (with_reducible refine LeO.ite ?_ ?_)
      | (with_reducible refine LeO.bind ?_ (fun _ => ?_))
      | exact ih0 _ _
      | exact ih1 _ _ _ _
      | exact ih2 _ _ _ _ _
      | exact ih3 _ _ _ _ _ _
      | exact ih4 _ _ _ _ _ _ _
      | exact desigs_Valid.mono _ _
      | exact zoneinfolaw12_awake.mono _
      | exact zoneinforef12_Plain.mono _ _
      | exact LeO.none _
      | refine LeO.ite ?_ ?_
      | refine LeO.bind ?_ (fun _ => ?_)
    · intro y0 y1 y2 y3 y4 y5 y6
      unfold zoneinfolaw12_DesigsBuildThenName.l1
      repeat' first
      | (with_reducible exact ih0 _ _)
      | (with_reducible exact ih1 _ _ _ _)
      | (with_reducible exact ih2 _ _ _ _ _)
      | (with_reducible exact ih3 _ _ _ _ _ _)
      | (with_reducible exact ih4 _ _ _ _ _ _ _)
      | (with_reducible exact desigs_Valid.mono _ _)
      | (with_reducible exact zoneinfolaw12_awake.mono _)
      | (with_reducible exact zoneinforef12_Plain.mono _ _)
      | (with_reducible exact LeO.refl _)
      | (with_reducible exact LeO.none _)
      | (with_reducible refine LeO.ite ?_ ?_)
      | (with_reducible refine LeO.bind ?_ (fun _ => ?_))
      | exact ih0 _ _
      | exact ih1 _ _ _ _
      | exact ih2 _ _ _ _ _
      | exact ih3 _ _ _ _ _ _
      | exact ih4 _ _ _ _ _ _ _
      | exact desigs_Valid.mono _ _
      | exact zoneinfolaw12_awake.mono _
      | exact zoneinforef12_Plain.mono _ _
      | exact LeO.none _
      | refine LeO.ite ?_ ?_
      | refine LeO.bind ?_ (fun _ => ?_)
theorem zoneinfolaw12_DesigsBuildThenName.mono : ∀ a0 k, LeO (zoneinfolaw12_DesigsBuildThenName.f k a0) (zoneinfolaw12_DesigsBuildThenName.f (k + 1) a0) := by
  intro a0 k
  obtain ⟨ih0, ih1, ih2, ih3, ih4⟩ := zoneinfolaw12_DesigsBuildThenName.mono_l k
  unfold zoneinfolaw12_DesigsBuildThenName.f
  repeat' first
      | (with_reducible exact ih0 _ _)
      | (with_reducible exact ih1 _ _ _ _)
      | (with_reducible exact ih2 _ _ _ _ _)
      | (with_reducible exact ih3 _ _ _ _ _ _)
      | (with_reducible exact ih4 _ _ _ _ _ _ _)
      | (with_reducible exact desigs_Valid.mono _ _)
      | (with_reducible exact zoneinfolaw12_awake.mono _)
      | (with_reducible exact zoneinforef12_Plain.mono _ _)
      | (with_reducible exact LeO.refl _)
      | (with_reducible exact LeO.none _)
      | (with_reducible refine LeO.ite ?_ ?_)
      | (with_reducible refine LeO.bind ?_ (fun _ => ?_))
      | exact ih0 _ _
      | exact ih1 _ _ _ _
      | exact ih2 _ _ _ _ _
      | exact ih3 _ _ _ _ _ _
      | exact ih4 _ _ _ _ _ _ _
      | exact desigs_Valid.mono _ _
      | exact zoneinfolaw12_awake.mono _
      | exact zoneinforef12_Plain.mono _ _
      | exact LeO.none _
      | refine LeO.ite ?_ ?_
      | refine LeO.bind ?_ (fun _ => ?_)
set_option maxHeartbeats 8000000 in
set_option maxRecDepth 100000 in
theorem zoneinfolaw12_DesigsBuildThenName.calls (k : Nat) (A0 : Option Addr) (c0 : Nat) (l0 : List ByteArray) (r : Bool) (w : World) (hr0 : Kd.C Kd.string w A0 l0.length l0) (hc0 : l0.length ≤ c0) (h : zoneinfolaw12_DesigsBuildThenName.f k l0 = some r) :
    Calls Try.prog 4 #[.slice A0 l0.length c0] w fun e w' => e = .returned (.bool r) ∧ Below w.heap.size w w' := by
  have HR0 := Aside0.mk hr0
  have HC0 := Aside0.mk hc0
  clear hr0 hc0
  have HB := Aside0.mk (Below.refl w.heap.size w)
  have H : ((zoneinfolaw12_awake.f k).bind fun t213 => (if t213 = true then ((zoneinforef12_Plain.f k l0).bind fun t214 => (zoneinfolaw12_DesigsBuildThenName.j0 k l0 (!t214))) else (zoneinfolaw12_DesigsBuildThenName.j0 k l0 true))) = some r := h
  clear h
  have HC2 := Aside0.mk H
  clear H
  go_enter Try.func4, Try.ntmps4
  (try simp only [List.append_eq, List.cons_append, List.nil_append])
  go_upto_region 1 with (fail)
  repeat (go_quiet (fail); go_upto_region 1 with (fail))
  go_cut [17] (fun v17 wc => ∃ (kq : Nat) (x17_1 : Bool), v17 = .bool x17_1 ∧ Aside0 (zoneinfolaw12_DesigsBuildThenName.j0 kq l0 x17_1 = some r) ∧ Aside0 (kq ≤ k) ∧ Aside0 (Below w.heap.size w wc))
  case first =>
    have H := HC2.out
    clear HC2
    replace H := Option.bind_eq_some_iff.mp H
    obtain ⟨t213, A30, H⟩ := H
    replace H : (if t213 = true then ((zoneinforef12_Plain.f k l0).bind fun t214 => (zoneinfolaw12_DesigsBuildThenName.j0 k l0 (!t214))) else (zoneinfolaw12_DesigsBuildThenName.j0 k l0 true)) = some r := H
    have A3 := Aside0.mk A30
    clear A30
    by_cases c4 : t213 = true
    · subst c4
      have H1 : ((zoneinforef12_Plain.f k l0).bind fun t214 => (zoneinfolaw12_DesigsBuildThenName.j0 k l0 (!t214))) = some r := by rw [if_pos rfl] at H; exact H
      clear H
      have H := H1
      clear H1
      replace H := Option.bind_eq_some_iff.mp H
      obtain ⟨t214, A50, H⟩ := H
      replace H : (zoneinfolaw12_DesigsBuildThenName.j0 k l0 (!t214)) = some r := H
      have A5 := Aside0.mk A50
      clear A50
      have H' := Aside0.mk H
      clear H
      go_wp2_with (first | (go_at_call 8; (with_reducible refine (zoneinfolaw12_awake.calls k  true _ A3.out).mono ?_); rintro e w6 ⟨rfl, hb⟩; have n0_ := Aside0.mk (below_step (by repeat (first | (with_reducible first | exact HB.out | apply below_alloc | apply pw_below_drewN | apply below_drew1) | exact HB.out)) hb); clear HB; have HB := n0_; clear n0_; (try clear hb); (try clear hb2); (try clear hk); (try clear hi)) | (go_at_call 15; (with_reducible refine (zoneinforef12_Plain.calls k _ _ l0 t214 _ ?side1 ?side2 A5.out).mono ?_); (case side1 => repeat (first | exact (Kd.C_below HR0.out HB.out) | (with_reducible refine Kd.C_alloc ?_ _) | (with_reducible refine Kd.C_drewN ?_ _) | (with_reducible refine Kd.C_drew ?_))); (case side2 => exact HC0.out); rintro e w' ⟨rfl, ⟨nd, rfl⟩⟩; (try first | exact ⟨rfl, _, World.drewN_drewN _ _ _⟩ | exact ⟨rfl, _, Eq.trans (World.drewN_drewN _ _ _) (congrArg (World.drewN _) (Nat.add_assoc _ _ _))⟩)))
      repeat (go_quiet (first | (go_at_call 8; (with_reducible refine (zoneinfolaw12_awake.calls k  true _ A3.out).mono ?_); rintro e w6 ⟨rfl, hb⟩; have n0_ := Aside0.mk (below_step (by repeat (first | (with_reducible first | exact HB.out | apply below_alloc | apply pw_below_drewN | apply below_drew1) | exact HB.out)) hb); clear HB; have HB := n0_; clear n0_; (try clear hb); (try clear hb2); (try clear hk); (try clear hi)) | (go_at_call 15; (with_reducible refine (zoneinforef12_Plain.calls k _ _ l0 t214 _ ?side1 ?side2 A5.out).mono ?_); (case side1 => repeat (first | exact (Kd.C_below HR0.out HB.out) | (with_reducible refine Kd.C_alloc ?_ _) | (with_reducible refine Kd.C_drewN ?_ _) | (with_reducible refine Kd.C_drew ?_))); (case side2 => exact HC0.out); rintro e w' ⟨rfl, ⟨nd, rfl⟩⟩; (try first | exact ⟨rfl, _, World.drewN_drewN _ _ _⟩ | exact ⟨rfl, _, Eq.trans (World.drewN_drewN _ _ _) (congrArg (World.drewN _) (Nat.add_assoc _ _ _))⟩))); try go_wp2_with (first | (go_at_call 8; (with_reducible refine (zoneinfolaw12_awake.calls k  true _ A3.out).mono ?_); rintro e w6 ⟨rfl, hb⟩; have n0_ := Aside0.mk (below_step (by repeat (first | (with_reducible first | exact HB.out | apply below_alloc | apply pw_below_drewN | apply below_drew1) | exact HB.out)) hb); clear HB; have HB := n0_; clear n0_; (try clear hb); (try clear hb2); (try clear hk); (try clear hi)) | (go_at_call 15; (with_reducible refine (zoneinforef12_Plain.calls k _ _ l0 t214 _ ?side1 ?side2 A5.out).mono ?_); (case side1 => repeat (first | exact (Kd.C_below HR0.out HB.out) | (with_reducible refine Kd.C_alloc ?_ _) | (with_reducible refine Kd.C_drewN ?_ _) | (with_reducible refine Kd.C_drew ?_))); (case side2 => exact HC0.out); rintro e w' ⟨rfl, ⟨nd, rfl⟩⟩; (try first | exact ⟨rfl, _, World.drewN_drewN _ _ _⟩ | exact ⟨rfl, _, Eq.trans (World.drewN_drewN _ _ _) (congrArg (World.drewN _) (Nat.add_assoc _ _ _))⟩))))
      go_meet
      case rel => exact ⟨_, (!t214), (by first | rfl | (simp; done) | (simp [*]; done)), H', ⟨by first | omega | exact Nat.le_refl _⟩, ⟨by repeat (first | (with_reducible first | exact HB.out | apply below_alloc | apply pw_below_drewN | apply below_drew1) | exact HB.out)⟩⟩
    · replace c4 := Bool.eq_false_iff.mpr c4
      subst c4
      have H1 : (zoneinfolaw12_DesigsBuildThenName.j0 k l0 true) = some r := by rw [if_neg (show ¬ (false = true) by decide)] at H; exact H
      clear H
      have H := H1
      clear H1
      have H' := Aside0.mk H
      clear H
      go_wp2_with (first | (go_at_call 8; (with_reducible refine (zoneinfolaw12_awake.calls k  false _ A3.out).mono ?_); rintro e w7 ⟨rfl, hb⟩; have n0_ := Aside0.mk (below_step (by repeat (first | (with_reducible first | exact HB.out | apply below_alloc | apply pw_below_drewN | apply below_drew1) | exact HB.out)) hb); clear HB; have HB := n0_; clear n0_; (try clear hb); (try clear hb2); (try clear hk); (try clear hi)))
      repeat (go_quiet (first | (go_at_call 8; (with_reducible refine (zoneinfolaw12_awake.calls k  false _ A3.out).mono ?_); rintro e w7 ⟨rfl, hb⟩; have n0_ := Aside0.mk (below_step (by repeat (first | (with_reducible first | exact HB.out | apply below_alloc | apply pw_below_drewN | apply below_drew1) | exact HB.out)) hb); clear HB; have HB := n0_; clear n0_; (try clear hb); (try clear hb2); (try clear hk); (try clear hi))); try go_wp2_with (first | (go_at_call 8; (with_reducible refine (zoneinfolaw12_awake.calls k  false _ A3.out).mono ?_); rintro e w7 ⟨rfl, hb⟩; have n0_ := Aside0.mk (below_step (by repeat (first | (with_reducible first | exact HB.out | apply below_alloc | apply pw_below_drewN | apply below_drew1) | exact HB.out)) hb); clear HB; have HB := n0_; clear n0_; (try clear hb); (try clear hb2); (try clear hk); (try clear hi))))
      go_meet
      case rel => exact ⟨_, (true), (by first | rfl | (simp; done) | (simp [*]; done)), H', ⟨by first | omega | exact Nat.le_refl _⟩, ⟨by repeat (first | (with_reducible first | exact HB.out | apply below_alloc | apply pw_below_drewN | apply below_drew1) | exact HB.out)⟩⟩
  case rest =>
    clear HC2
    try clear p2
    try clear c4
    obtain ⟨kq, x17_1, rfl, HA, HJ1, HB⟩ := hcut
    cases kq with
    | zero => exact absurd HA.out (by simp [zoneinfolaw12_DesigsBuildThenName.j0])
    | succ kj1 =>
      have H := HA.out
      clear HA
      simp only [zoneinfolaw12_DesigsBuildThenName.j0] at H
      by_cases c8 : x17_1 = true
      · subst c8
        have H1 : ((zoneinfolaw12_awake.f kj1).bind fun t215 => (some t215)) = some r := by rw [if_pos rfl] at H; exact H
        clear H
        have H := H1
        clear H1
        replace H := Option.bind_eq_some_iff.mp H
        obtain ⟨t215, A90, H⟩ := H
        replace H : (some t215) = some r := H
        have A9 := Aside0.mk A90
        clear A90
        obtain rfl := Option.some.inj H
        go_wp2_with (first | (go_at_call 8; (with_reducible refine (zoneinfolaw12_awake.calls kj1  t215 _ A9.out).mono ?_); rintro e w10 ⟨rfl, hb⟩; have n0_ := Aside0.mk (below_step (by repeat (first | (with_reducible first | exact HB.out | apply below_alloc | apply pw_below_drewN | apply below_drew1) | exact HB.out)) hb); clear HB; have HB := n0_; clear n0_; (try clear hb); (try clear hb2); (try clear hk); (try clear hi)))
        repeat (go_quiet (first | (go_at_call 8; (with_reducible refine (zoneinfolaw12_awake.calls kj1  t215 _ A9.out).mono ?_); rintro e w10 ⟨rfl, hb⟩; have n0_ := Aside0.mk (below_step (by repeat (first | (with_reducible first | exact HB.out | apply below_alloc | apply pw_below_drewN | apply below_drew1) | exact HB.out)) hb); clear HB; have HB := n0_; clear n0_; (try clear hb); (try clear hb2); (try clear hk); (try clear hi))); try go_wp2_with (first | (go_at_call 8; (with_reducible refine (zoneinfolaw12_awake.calls kj1  t215 _ A9.out).mono ?_); rintro e w10 ⟨rfl, hb⟩; have n0_ := Aside0.mk (below_step (by repeat (first | (with_reducible first | exact HB.out | apply below_alloc | apply pw_below_drewN | apply below_drew1) | exact HB.out)) hb); clear HB; have HB := n0_; clear n0_; (try clear hb); (try clear hb2); (try clear hk); (try clear hi))))
        go_ret
        exact ⟨by first | rfl | (simp [errW_none, errW_some] <;> rfl) | (simp [*, errW_none, errW_some] <;> rfl), by repeat (first | (with_reducible first | exact HB.out | apply below_alloc | apply pw_below_drewN | apply below_drew1) | exact HB.out)⟩
      · replace c8 := Bool.eq_false_iff.mpr c8
        subst c8
        have H1 : ((desigs_Build.f l0).bind fun bt216 => ((desigs_Valid.f kj1 bt216.1).bind fun t222 => (if t222 = true then (zoneinfolaw12_DesigsBuildThenName.j1 kj1 l0 bt216.1 bt216.2 ((bt216.2.length : Int) != (l0.length : Int))) else (none)))) = some r := by rw [if_neg (show ¬ (false = true) by decide)] at H; exact H
        clear H
        have H := H1
        clear H1
        replace H := Option.bind_eq_some_iff.mp H
        obtain ⟨⟨t216, t217⟩, A110, H⟩ := H
        replace H : ((desigs_Valid.f kj1 t216).bind fun t222 => (if t222 = true then (zoneinfolaw12_DesigsBuildThenName.j1 kj1 l0 t216 t217 ((t217.length : Int) != (l0.length : Int))) else (none))) = some r := H
        have A11 := Aside0.mk A110
        clear A110
        have HC12 := Aside0.mk H
        clear H
        go_upto_region 4 with (first | (go_at_call 16; (with_reducible refine (desigs_Build.calls _ _ l0 t216 t217 _ ?side1 ?side2 A11.out).mono ?_); (case side1 => repeat (first | exact (Kd.C_below HR0.out HB.out) | (with_reducible refine Kd.C_alloc ?_ _) | (with_reducible refine Kd.C_drewN ?_ _) | (with_reducible refine Kd.C_drew ?_))); (case side2 => exact HC0.out); rintro e w13 ⟨v218, v220, rfl, ho0, ho1, hb⟩; have n0_ := Aside0.mk (Kd.R_lower ho0 (below_size (by repeat (first | (with_reducible first | exact HB.out | apply below_alloc | apply pw_below_drewN | apply below_drew1) | exact HB.out)))); have n1_ := Aside0.mk (Kd.R_lower ho1 (below_size (by repeat (first | (with_reducible first | exact HB.out | apply below_alloc | apply pw_below_drewN | apply below_drew1) | exact HB.out)))); have n2_ := Aside0.mk (below_step (by repeat (first | (with_reducible first | exact HB.out | apply below_alloc | apply pw_below_drewN | apply below_drew1) | exact HB.out)) hb); clear HB; have HO219 := n0_; have HO221 := n1_; have HB := n2_; clear n0_ n1_ n2_; (try clear hb); (try clear hb2); (try clear hk); (try clear hi); (try clear ho0); (try clear ho1)))
        repeat (go_quiet (first | (go_at_call 16; (with_reducible refine (desigs_Build.calls _ _ l0 t216 t217 _ ?side1 ?side2 A11.out).mono ?_); (case side1 => repeat (first | exact (Kd.C_below HR0.out HB.out) | (with_reducible refine Kd.C_alloc ?_ _) | (with_reducible refine Kd.C_drewN ?_ _) | (with_reducible refine Kd.C_drew ?_))); (case side2 => exact HC0.out); rintro e w13 ⟨v218, v220, rfl, ho0, ho1, hb⟩; have n0_ := Aside0.mk (Kd.R_lower ho0 (below_size (by repeat (first | (with_reducible first | exact HB.out | apply below_alloc | apply pw_below_drewN | apply below_drew1) | exact HB.out)))); have n1_ := Aside0.mk (Kd.R_lower ho1 (below_size (by repeat (first | (with_reducible first | exact HB.out | apply below_alloc | apply pw_below_drewN | apply below_drew1) | exact HB.out)))); have n2_ := Aside0.mk (below_step (by repeat (first | (with_reducible first | exact HB.out | apply below_alloc | apply pw_below_drewN | apply below_drew1) | exact HB.out)) hb); clear HB; have HO219 := n0_; have HO221 := n1_; have HB := n2_; clear n0_ n1_ n2_; (try clear hb); (try clear hb2); (try clear hk); (try clear hi); (try clear ho0); (try clear ho1))); go_upto_region 4 with (first | (go_at_call 16; (with_reducible refine (desigs_Build.calls _ _ l0 t216 t217 _ ?side1 ?side2 A11.out).mono ?_); (case side1 => repeat (first | exact (Kd.C_below HR0.out HB.out) | (with_reducible refine Kd.C_alloc ?_ _) | (with_reducible refine Kd.C_drewN ?_ _) | (with_reducible refine Kd.C_drew ?_))); (case side2 => exact HC0.out); rintro e w13 ⟨v218, v220, rfl, ho0, ho1, hb⟩; have n0_ := Aside0.mk (Kd.R_lower ho0 (below_size (by repeat (first | (with_reducible first | exact HB.out | apply below_alloc | apply pw_below_drewN | apply below_drew1) | exact HB.out)))); have n1_ := Aside0.mk (Kd.R_lower ho1 (below_size (by repeat (first | (with_reducible first | exact HB.out | apply below_alloc | apply pw_below_drewN | apply below_drew1) | exact HB.out)))); have n2_ := Aside0.mk (below_step (by repeat (first | (with_reducible first | exact HB.out | apply below_alloc | apply pw_below_drewN | apply below_drew1) | exact HB.out)) hb); clear HB; have HO219 := n0_; have HO221 := n1_; have HB := n2_; clear n0_ n1_ n2_; (try clear hb); (try clear hb2); (try clear hk); (try clear hi); (try clear ho0); (try clear ho1))))
        (try simp only [Act.put, List.setIfInBounds_toArray, List.set_cons_zero, List.set_cons_succ])
        go_cut [33] (fun v33 wc => ∃ (kq : Nat) (x33_11 : Bool), v33 = .bool x33_11 ∧ Aside0 (zoneinfolaw12_DesigsBuildThenName.j1 kq l0 t216 t217 x33_11 = some r) ∧ Aside0 (kq ≤ kj1) ∧ Aside0 (Kd.R (Kd.int .u8) 5 wc w.heap.size (fun _ => True) v218 t216) ∧ Aside0 (Kd.R (Kd.int .i64) 3 wc w.heap.size (fun _ => True) v220 t217) ∧ Aside0 (Below w.heap.size w wc))
        case first =>
          have H := HC12.out
          clear HC12
          replace H := Option.bind_eq_some_iff.mp H
          obtain ⟨t222, A140, H⟩ := H
          replace H : (if t222 = true then (zoneinfolaw12_DesigsBuildThenName.j1 kj1 l0 t216 t217 ((t217.length : Int) != (l0.length : Int))) else (none)) = some r := H
          have A14 := Aside0.mk A140
          clear A140
          by_cases c15 : t222 = true
          · subst c15
            have H1 : (zoneinfolaw12_DesigsBuildThenName.j1 kj1 l0 t216 t217 ((t217.length : Int) != (l0.length : Int))) = some r := by rw [if_pos rfl] at H; exact H
            clear H
            have H := H1
            clear H1
            have H' := Aside0.mk H
            clear H
            obtain ⟨Ao16, co16, eo16⟩ := Kd.R_slice HO219.out
            subst eo16
            go_wp2_with (first | (go_at_call 9; (with_reducible refine (desigs_Valid.calls kj1 _ _ t216 true _ ?side1 ?side2 A14.out).mono ?_); (case side1 => repeat (first | exact (Kd.R_reads' HO219.out).2.2 | (with_reducible refine Kd.C_alloc ?_ _) | (with_reducible refine Kd.C_drewN ?_ _) | (with_reducible refine Kd.C_drew ?_))); (case side2 => exact (Kd.R_reads' HO219.out).2.1); rintro e w' ⟨rfl, ⟨nd, rfl⟩⟩; (try first | exact ⟨rfl, _, World.drewN_drewN _ _ _⟩ | exact ⟨rfl, _, Eq.trans (World.drewN_drewN _ _ _) (congrArg (World.drewN _) (Nat.add_assoc _ _ _))⟩); obtain ⟨Ao17, co17, eo17⟩ := Kd.R_slice HO221.out; subst eo17))
            repeat (go_quiet (first | (go_at_call 9; (with_reducible refine (desigs_Valid.calls kj1 _ _ t216 true _ ?side1 ?side2 A14.out).mono ?_); (case side1 => repeat (first | exact (Kd.R_reads' HO219.out).2.2 | (with_reducible refine Kd.C_alloc ?_ _) | (with_reducible refine Kd.C_drewN ?_ _) | (with_reducible refine Kd.C_drew ?_))); (case side2 => exact (Kd.R_reads' HO219.out).2.1); rintro e w' ⟨rfl, ⟨nd, rfl⟩⟩; (try first | exact ⟨rfl, _, World.drewN_drewN _ _ _⟩ | exact ⟨rfl, _, Eq.trans (World.drewN_drewN _ _ _) (congrArg (World.drewN _) (Nat.add_assoc _ _ _))⟩); obtain ⟨Ao17, co17, eo17⟩ := Kd.R_slice HO221.out; subst eo17)); try go_wp2_with (first | (go_at_call 9; (with_reducible refine (desigs_Valid.calls kj1 _ _ t216 true _ ?side1 ?side2 A14.out).mono ?_); (case side1 => repeat (first | exact (Kd.R_reads' HO219.out).2.2 | (with_reducible refine Kd.C_alloc ?_ _) | (with_reducible refine Kd.C_drewN ?_ _) | (with_reducible refine Kd.C_drew ?_))); (case side2 => exact (Kd.R_reads' HO219.out).2.1); rintro e w' ⟨rfl, ⟨nd, rfl⟩⟩; (try first | exact ⟨rfl, _, World.drewN_drewN _ _ _⟩ | exact ⟨rfl, _, Eq.trans (World.drewN_drewN _ _ _) (congrArg (World.drewN _) (Nat.add_assoc _ _ _))⟩); obtain ⟨Ao17, co17, eo17⟩ := Kd.R_slice HO221.out; subst eo17)))
            go_meet
            case rel => exact ⟨_, (((t217.length : Int) != (l0.length : Int))), (by first | rfl | (simp; done) | (simp [*]; done)), H', ⟨by have := HJ1.out; first | omega | exact Nat.le_refl _⟩, ⟨by (with_reducible repeat (first | apply Kd.R_alloc | apply Kd.R_drewN | apply Kd.R_drew)); exact HO219.out⟩, ⟨by (with_reducible repeat (first | apply Kd.R_alloc | apply Kd.R_drewN | apply Kd.R_drew)); exact HO221.out⟩, ⟨by repeat (first | (with_reducible first | exact HB.out | apply below_alloc | apply pw_below_drewN | apply below_drew1) | exact HB.out)⟩⟩
          · replace c15 := Bool.eq_false_iff.mpr c15
            subst c15
            have H1 : (none) = some r := by rw [if_neg (show ¬ (false = true) by decide)] at H; exact H
            clear H
            have H := H1
            clear H1
            exact absurd H (by simp)
        case rest =>
          clear HC12
          try clear c1
          try clear p2
          try clear c4
          try clear c8
          try clear c15
          try clear p2
          obtain ⟨kq, x33_11, rfl, HA, HJ11, HO_3, HO_4, HB⟩ := hcut
          cases kq with
          | zero => exact absurd HA.out (by simp [zoneinfolaw12_DesigsBuildThenName.j1])
          | succ kj11 =>
            have H := HA.out
            clear HA
            simp only [zoneinfolaw12_DesigsBuildThenName.j1] at H
            by_cases c18 : x33_11 = true
            · subst c18
              have H1 : (none) = some r := by rw [if_pos rfl] at H; exact H
              clear H
              have H := H1
              clear H1
              exact absurd H (by simp)
            · replace c18 := Bool.eq_false_iff.mpr c18
              subst c18
              have H1 : (zoneinfolaw12_DesigsBuildThenName.l0 kj11 l0 t216 t217 0 0) = some r := by rw [if_neg (show ¬ (false = true) by decide)] at H; exact H
              clear H
              have H := H1
              clear H1
              have H' := Aside0.mk H
              clear H
              go_wp2
              repeat (go_quiet (fail); try go_wp2)
              go_loopg [5, 6] kj11 (fun kq v5 v6 w' => ∃ (x5_3 : Int) (x6_3 : Int), v5 = .int .i64 x5_3 ∧ v6 = .int .i64 x6_3 ∧ Aside0 (zoneinfolaw12_DesigsBuildThenName.l0 kq l0 t216 t217 x5_3 x6_3 = some r) ∧ Aside0 (kq ≤ kj11) ∧ Aside0 (Kd.R (Kd.int .u8) 5 w' w.heap.size (fun _ => True) v218 t216) ∧ Aside0 (Kd.R (Kd.int .i64) 3 w' w.heap.size (fun _ => True) v220 t217) ∧ Aside0 (Below w.heap.size w w'))
              case atStart => exact ⟨(0), (0), (by first | rfl | (simp; done) | (simp [*]; done)), (by first | rfl | (simp; done) | (simp [*]; done)), H', ⟨Nat.le_refl _⟩, ⟨by (with_reducible repeat (first | apply Kd.R_alloc | apply Kd.R_drewN | apply Kd.R_drew)); exact HO_3.out⟩, ⟨by (with_reducible repeat (first | apply Kd.R_alloc | apply Kd.R_drewN | apply Kd.R_drew)); exact HO_4.out⟩, ⟨by repeat (first | (with_reducible first | exact HB.out | apply below_alloc | apply pw_below_drewN | apply below_drew1) | exact HB.out)⟩⟩
              case round =>
                clear H'
                try clear c1
                try clear p2
                try clear c4
                try clear c8
                try clear c15
                try clear c18
                try clear p2
                obtain ⟨x5_3, x6_3, rfl, rfl, HA, HK3, HO_3, HO_4, HB⟩ := hrel
                cases gk with
                | zero => exact absurd HA.out (by simp [zoneinfolaw12_DesigsBuildThenName.l0])
                | succ k3 =>
                  have H := HA.out
                  clear HA
                  simp only [zoneinfolaw12_DesigsBuildThenName.l0] at H
                  by_cases c19 : x6_3 < (l0.length : Int)
                  · rw [if_pos c19] at H
                    have c19b0 : decide (x6_3 < (l0.length : Int)) = true := decide_eq_true c19
                    clear c19
                    by_cases c20 : 0 ≤ x6_3
                    · rw [if_pos c20] at H
                      have c20b0 : decide (0 ≤ x6_3) = true := decide_eq_true c20
                      clear c20
                      by_cases c21 : x6_3 < (t217.length : Int)
                      · rw [if_pos c21] at H
                        have c21b0 : decide (x6_3 < (t217.length : Int)) = true := decide_eq_true c21
                        clear c21
                        replace H := Option.bind_eq_some_iff.mp H
                        obtain ⟨⟨t224, t225⟩, A220, H⟩ := H
                        replace H : (if t225 = true then (zoneinfolaw12_DesigsBuildThenName.j3 k3 l0 t216 t217 x5_3 x6_3 (t224.toList != (rdOf ByteArray.empty l0 x6_3).toList)) else (none)) = some r := H
                        have A22 := Aside0.mk A220
                        clear A220
                        have HC23 := Aside0.mk H
                        clear H
                        obtain ⟨Ao24, co24, eo24⟩ := Kd.R_slice HO_4.out
                        subst eo24
                        have p223 : 0 ≤ (x6_3 : Int) := of_decide_eq_true (by first | (with_reducible assumption) | assumption)
                        have q223 : x6_3 < (t217.length : Int) := of_decide_eq_true (by first | (with_reducible assumption) | assumption)
                        obtain ⟨ad223, e223, hx223_0⟩ := Kd.at_int (Kd.R_reads' HO_4.out).2.2 x6_3 p223 q223
                        cases e223
                        replace p223 := eq_true p223
                        replace q223 := eq_true q223
                        obtain ⟨Ao25, co25, eo25⟩ := Kd.R_slice HO_3.out
                        subst eo25
                        go_upto_region 11 with (first | (go_at_call 13; (with_reducible refine (desigs_Name.calls _ _ t216 (rd t217 x6_3) t224 t225 _ ?side1 ?side2 A22.out).mono ?_); (case side1 => repeat (first | exact (Kd.R_reads' HO_3.out).2.2 | (with_reducible refine Kd.C_alloc ?_ _) | (with_reducible refine Kd.C_drewN ?_ _) | (with_reducible refine Kd.C_drew ?_))); (case side2 => exact (Kd.R_reads' HO_3.out).2.1); rintro e w26 ⟨rfl, hb⟩; have n0_ := Aside0.mk (Kd.R_below (by (with_reducible repeat (first | apply Kd.R_alloc | apply Kd.R_drewN | apply Kd.R_drew)); exact HO_3.out) hb); have n1_ := Aside0.mk (Kd.R_below (by (with_reducible repeat (first | apply Kd.R_alloc | apply Kd.R_drewN | apply Kd.R_drew)); exact HO_4.out) hb); have n2_ := Aside0.mk (below_step (by repeat (first | (with_reducible first | exact HB.out | apply below_alloc | apply pw_below_drewN | apply below_drew1) | exact HB.out)) hb); clear HO_3; clear HO_4; clear HB; have HO_3 := n0_; have HO_4 := n1_; have HB := n2_; clear n0_ n1_ n2_; (try clear hb); (try clear hb2); (try clear hk); (try clear hi)))
                        repeat (go_quiet (first | (go_at_call 13; (with_reducible refine (desigs_Name.calls _ _ t216 (rd t217 x6_3) t224 t225 _ ?side1 ?side2 A22.out).mono ?_); (case side1 => repeat (first | exact (Kd.R_reads' HO_3.out).2.2 | (with_reducible refine Kd.C_alloc ?_ _) | (with_reducible refine Kd.C_drewN ?_ _) | (with_reducible refine Kd.C_drew ?_))); (case side2 => exact (Kd.R_reads' HO_3.out).2.1); rintro e w26 ⟨rfl, hb⟩; have n0_ := Aside0.mk (Kd.R_below (by (with_reducible repeat (first | apply Kd.R_alloc | apply Kd.R_drewN | apply Kd.R_drew)); exact HO_3.out) hb); have n1_ := Aside0.mk (Kd.R_below (by (with_reducible repeat (first | apply Kd.R_alloc | apply Kd.R_drewN | apply Kd.R_drew)); exact HO_4.out) hb); have n2_ := Aside0.mk (below_step (by repeat (first | (with_reducible first | exact HB.out | apply below_alloc | apply pw_below_drewN | apply below_drew1) | exact HB.out)) hb); clear HO_3; clear HO_4; clear HB; have HO_3 := n0_; have HO_4 := n1_; have HB := n2_; clear n0_ n1_ n2_; (try clear hb); (try clear hb2); (try clear hk); (try clear hi))); go_upto_region 11 with (first | (go_at_call 13; (with_reducible refine (desigs_Name.calls _ _ t216 (rd t217 x6_3) t224 t225 _ ?side1 ?side2 A22.out).mono ?_); (case side1 => repeat (first | exact (Kd.R_reads' HO_3.out).2.2 | (with_reducible refine Kd.C_alloc ?_ _) | (with_reducible refine Kd.C_drewN ?_ _) | (with_reducible refine Kd.C_drew ?_))); (case side2 => exact (Kd.R_reads' HO_3.out).2.1); rintro e w26 ⟨rfl, hb⟩; have n0_ := Aside0.mk (Kd.R_below (by (with_reducible repeat (first | apply Kd.R_alloc | apply Kd.R_drewN | apply Kd.R_drew)); exact HO_3.out) hb); have n1_ := Aside0.mk (Kd.R_below (by (with_reducible repeat (first | apply Kd.R_alloc | apply Kd.R_drewN | apply Kd.R_drew)); exact HO_4.out) hb); have n2_ := Aside0.mk (below_step (by repeat (first | (with_reducible first | exact HB.out | apply below_alloc | apply pw_below_drewN | apply below_drew1) | exact HB.out)) hb); clear HO_3; clear HO_4; clear HB; have HO_3 := n0_; have HO_4 := n1_; have HB := n2_; clear n0_ n1_ n2_; (try clear hb); (try clear hb2); (try clear hk); (try clear hi))))
                        (try simp only [Act.put, List.setIfInBounds_toArray, List.set_cons_zero, List.set_cons_succ])
                        go_cut [58] (fun v58 wc => ∃ (kq : Nat) (x58_22 : Bool), v58 = .bool x58_22 ∧ Aside0 (zoneinfolaw12_DesigsBuildThenName.j3 kq l0 t216 t217 x5_3 x6_3 x58_22 = some r) ∧ Aside0 (kq ≤ k3) ∧ Aside0 (Kd.R (Kd.int .u8) 5 wc w.heap.size (fun _ => True) (.slice Ao25 t216.length co25) t216) ∧ Aside0 (Kd.R (Kd.int .i64) 3 wc w.heap.size (fun _ => True) (.slice (some ad223) t217.length co24) t217) ∧ Aside0 (Below w.heap.size w wc))
                        case first =>
                          have H := HC23.out
                          clear HC23
                          by_cases c27 : t225 = true
                          · subst c27
                            have H1 : (zoneinfolaw12_DesigsBuildThenName.j3 k3 l0 t216 t217 x5_3 x6_3 (t224.toList != (rdOf ByteArray.empty l0 x6_3).toList)) = some r := by rw [if_pos rfl] at H; exact H
                            clear H
                            have H := H1
                            clear H1
                            have H' := Aside0.mk H
                            clear H
                            have p226 : 0 ≤ (x6_3 : Int) := of_decide_eq_true (by first | (with_reducible assumption) | assumption)
                            have q226 : x6_3 < (l0.length : Int) := of_decide_eq_true (by first | (with_reducible assumption) | assumption)
                            obtain ⟨ad226, e226, hx226_0⟩ := Kd.at_string HR0.out x6_3 p226 q226
                            cases e226
                            replace hx226_0 := (HB.out.cell (World.block_lt_of_cell? w _ hx226_0)).trans hx226_0
                            replace p226 := eq_true p226
                            replace q226 := eq_true q226
                            go_wp2
                            repeat (go_quiet (fail); try go_wp2)
                            go_meet
                            case rel => exact ⟨_, ((t224.toList != (rdOf ByteArray.empty l0 x6_3).toList)), (by first | rfl | (simp; done) | (simp [*]; done)), H', ⟨by have := HJ1.out; have := HJ11.out; have := HK3.out; first | omega | exact Nat.le_refl _⟩, ⟨by (with_reducible repeat (first | apply Kd.R_alloc | apply Kd.R_drewN | apply Kd.R_drew)); exact HO_3.out⟩, ⟨by (with_reducible repeat (first | apply Kd.R_alloc | apply Kd.R_drewN | apply Kd.R_drew)); exact HO_4.out⟩, ⟨by repeat (first | (with_reducible first | exact HB.out | apply below_alloc | apply pw_below_drewN | apply below_drew1) | exact HB.out)⟩⟩
                          · replace c27 := Bool.eq_false_iff.mpr c27
                            subst c27
                            have H1 : (none) = some r := by rw [if_neg (show ¬ (false = true) by decide)] at H; exact H
                            clear H
                            have H := H1
                            clear H1
                            exact absurd H (by simp)
                        case rest =>
                          clear HC23
                          try clear c1
                          try clear c2
                          try clear p2
                          try clear q2
                          try clear hx2
                          try clear c4
                          try clear c8
                          try clear c15
                          try clear c18
                          try clear c19
                          try clear c19b0
                          try clear c20
                          try clear c20b0
                          try clear c21
                          try clear c21b0
                          try clear p22
                          try clear q22
                          try clear hx22
                          try clear c27
                          try clear hx223_0
                          try clear hx226_0
                          try clear p2
                          try clear p223
                          try clear p226
                          try clear q223
                          try clear q226
                          obtain ⟨kq, x58_22, rfl, HA, HJ22, HO_3, HO_4, HB⟩ := hcut
                          cases kq with
                          | zero => exact absurd HA.out (by simp [zoneinfolaw12_DesigsBuildThenName.j3])
                          | succ kj22 =>
                            have H := HA.out
                            clear HA
                            simp only [zoneinfolaw12_DesigsBuildThenName.j3] at H
                            by_cases c28 : x58_22 = true
                            · subst c28
                              have H1 : (none) = some r := by rw [if_pos rfl] at H; exact H
                              clear H
                              have H := H1
                              clear H1
                              exact absurd H (by simp)
                            · replace c28 := Bool.eq_false_iff.mpr c28
                              subst c28
                              have H1 : (zoneinfolaw12_DesigsBuildThenName.l1 kj22 l0 t216 t217 x5_3 x6_3 false 0) = some r := by rw [if_neg (show ¬ (false = true) by decide)] at H; exact H
                              clear H
                              have H := H1
                              clear H1
                              have H' := Aside0.mk H
                              clear H
                              go_wp2
                              repeat (go_quiet (fail); try go_wp2)
                              go_loopg [9, 10] kj22 (fun kq v9 v10 w' => ∃ (x9_5 : Bool) (x10_5 : Int), v9 = .bool x9_5 ∧ v10 = .int .i64 x10_5 ∧ Aside0 (zoneinfolaw12_DesigsBuildThenName.l1 kq l0 t216 t217 x5_3 x6_3 x9_5 x10_5 = some r) ∧ Aside0 (kq ≤ kj22) ∧ Aside0 (Kd.R (Kd.int .u8) 5 w' w.heap.size (fun _ => True) (.slice Ao25 t216.length co25) t216) ∧ Aside0 (Kd.R (Kd.int .i64) 3 w' w.heap.size (fun _ => True) (.slice (some ad223) t217.length co24) t217) ∧ Aside0 (Below w.heap.size w w'))
                              case atStart => exact ⟨(false), (0), (by first | rfl | (simp; done) | (simp [*]; done)), (by first | rfl | (simp; done) | (simp [*]; done)), H', ⟨Nat.le_refl _⟩, ⟨by (with_reducible repeat (first | apply Kd.R_alloc | apply Kd.R_drewN | apply Kd.R_drew)); exact HO_3.out⟩, ⟨by (with_reducible repeat (first | apply Kd.R_alloc | apply Kd.R_drewN | apply Kd.R_drew)); exact HO_4.out⟩, ⟨by repeat (first | (with_reducible first | exact HB.out | apply below_alloc | apply pw_below_drewN | apply below_drew1) | exact HB.out)⟩⟩
                              case round =>
                                clear H'
                                try clear c1
                                try clear c2
                                try clear p2
                                try clear q2
                                try clear hx2
                                try clear c4
                                try clear c8
                                try clear c15
                                try clear c18
                                try clear c19
                                try clear c19b0
                                try clear c20
                                try clear c20b0
                                try clear c21
                                try clear c21b0
                                try clear p22
                                try clear q22
                                try clear hx22
                                try clear c27
                                try clear c28
                                try clear hx223_0
                                try clear hx226_0
                                try clear p2
                                try clear p22
                                try clear p223
                                try clear p226
                                try clear q2
                                try clear q22
                                try clear q223
                                try clear q226
                                obtain ⟨x9_5, x10_5, rfl, rfl, HA, HK5, HO_3, HO_4, HB⟩ := hrel
                                cases gk with
                                | zero => exact absurd HA.out (by simp [zoneinfolaw12_DesigsBuildThenName.l1])
                                | succ k5 =>
                                  have H := HA.out
                                  clear HA
                                  simp only [zoneinfolaw12_DesigsBuildThenName.l1] at H
                                  by_cases c29 : x10_5 < x6_3
                                  · rw [if_pos c29] at H
                                    have c29b0 : decide (x10_5 < x6_3) = true := decide_eq_true c29
                                    clear c29
                                    by_cases c30 : 0 ≤ x10_5
                                    · rw [if_pos c30] at H
                                      have c30b0 : decide (0 ≤ x10_5) = true := decide_eq_true c30
                                      clear c30
                                      by_cases c31 : x10_5 < (t217.length : Int)
                                      · rw [if_pos c31] at H
                                        have c31b0 : decide (x10_5 < (t217.length : Int)) = true := decide_eq_true c31
                                        clear c31
                                        by_cases c32 : 0 ≤ x6_3
                                        · rw [if_pos c32] at H
                                          have c32b0 : decide (0 ≤ x6_3) = true := decide_eq_true c32
                                          clear c32
                                          by_cases c33 : x6_3 < (t217.length : Int)
                                          · rw [if_pos c33] at H
                                            have c33b0 : decide (x6_3 < (t217.length : Int)) = true := decide_eq_true c33
                                            clear c33
                                            by_cases c34 : x10_5 < (l0.length : Int)
                                            · rw [if_pos c34] at H
                                              have c34b0 : decide (x10_5 < (l0.length : Int)) = true := decide_eq_true c34
                                              clear c34
                                              by_cases c35 : x6_3 < (l0.length : Int)
                                              · rw [if_pos c35] at H
                                                have c35b0 : decide (x6_3 < (l0.length : Int)) = true := decide_eq_true c35
                                                clear c35
                                                by_cases c36 : (((rd t217 x10_5) == (rd t217 x6_3)) != ((rdOf ByteArray.empty l0 x10_5).toList == (rdOf ByteArray.empty l0 x6_3).toList)) = true
                                                · rw [if_pos c36] at H
                                                  exact absurd H (by simp)
                                                · rw [if_neg c36] at H
                                                  have c36b0 : (((rd t217 x10_5) == (rd t217 x6_3)) != ((rdOf ByteArray.empty l0 x10_5).toList == (rdOf ByteArray.empty l0 x6_3).toList)) = false := by simpa using c36
                                                  (try (have c36b1 : decide (((rd t217 x10_5) == (rd t217 x6_3)) = ((rdOf ByteArray.empty l0 x10_5).toList == (rdOf ByteArray.empty l0 x6_3).toList)) = true := by simpa using c36))
                                                  (try (have c36b2 : (((rd t217 x10_5) == (rd t217 x6_3)) == ((rdOf ByteArray.empty l0 x10_5).toList == (rdOf ByteArray.empty l0 x6_3).toList)) = true := by simpa using c36))
                                                  clear c36
                                                  by_cases c37 : x9_5 = true
                                                  · subst c37
                                                    have H1 : (zoneinfolaw12_DesigsBuildThenName.l1 k5 l0 t216 t217 x5_3 x6_3 true (wrap64 (x10_5 + 1))) = some r := by rw [if_pos rfl] at H; exact H
                                                    clear H
                                                    have H := H1
                                                    clear H1
                                                    have H' := Aside0.mk H
                                                    clear H
                                                    have p227 : 0 ≤ (x10_5 : Int) := of_decide_eq_true (by first | (with_reducible assumption) | assumption)
                                                    have q227 : x10_5 < (t217.length : Int) := of_decide_eq_true (by first | (with_reducible assumption) | assumption)
                                                    obtain ⟨ad227, e227, hx227_0⟩ := Kd.at_int (Kd.R_reads' HO_4.out).2.2 x10_5 p227 q227
                                                    obtain rfl : ad223 = ad227 := (by injection e227)
                                                    replace p227 := eq_true p227
                                                    replace q227 := eq_true q227
                                                    have p228 : 0 ≤ (x6_3 : Int) := of_decide_eq_true (by first | (with_reducible assumption) | assumption)
                                                    have q228 : x6_3 < (t217.length : Int) := of_decide_eq_true (by first | (with_reducible assumption) | assumption)
                                                    obtain ⟨ad228, e228, hx228_0⟩ := Kd.at_int (Kd.R_reads' HO_4.out).2.2 x6_3 p228 q228
                                                    obtain rfl : ad223 = ad228 := (by injection e228)
                                                    replace p228 := eq_true p228
                                                    replace q228 := eq_true q228
                                                    have p229 : 0 ≤ (x10_5 : Int) := of_decide_eq_true (by first | (with_reducible assumption) | assumption)
                                                    have q229 : x10_5 < (l0.length : Int) := of_decide_eq_true (by first | (with_reducible assumption) | assumption)
                                                    obtain ⟨ad229, e229, hx229_0⟩ := Kd.at_string HR0.out x10_5 p229 q229
                                                    cases e229
                                                    replace hx229_0 := (HB.out.cell (World.block_lt_of_cell? w _ hx229_0)).trans hx229_0
                                                    replace p229 := eq_true p229
                                                    replace q229 := eq_true q229
                                                    have p230 : 0 ≤ (x6_3 : Int) := of_decide_eq_true (by first | (with_reducible assumption) | assumption)
                                                    have q230 : x6_3 < (l0.length : Int) := of_decide_eq_true (by first | (with_reducible assumption) | assumption)
                                                    obtain ⟨ad230, e230, hx230_0⟩ := Kd.at_string HR0.out x6_3 p230 q230
                                                    obtain rfl : ad229 = ad230 := (by injection e230)
                                                    replace hx230_0 := (HB.out.cell (World.block_lt_of_cell? w _ hx230_0)).trans hx230_0
                                                    replace p230 := eq_true p230
                                                    replace q230 := eq_true q230
                                                    go_wp2
                                                    repeat (go_quiet (fail); try go_wp2)
                                                    go_roundg k5
                                                    case measure => have := HJ1.out; have := HJ11.out; have := HK3.out; have := HJ22.out; have := HK5.out; omega
                                                    case rel => exact ⟨(true), (wrap64 (x10_5 + 1)), (by first | rfl | (simp; done) | (simp [*]; done)), (by first | rfl | (simp; done) | (simp [*]; done)), H', ⟨by have := HJ1.out; have := HJ11.out; have := HK3.out; have := HJ22.out; have := HK5.out; omega⟩, ⟨by (with_reducible repeat (first | apply Kd.R_alloc | apply Kd.R_drewN | apply Kd.R_drew)); exact HO_3.out⟩, ⟨by (with_reducible repeat (first | apply Kd.R_alloc | apply Kd.R_drewN | apply Kd.R_drew)); exact HO_4.out⟩, ⟨by repeat (first | (with_reducible first | exact HB.out | apply below_alloc | apply pw_below_drewN | apply below_drew1) | exact HB.out)⟩⟩
                                                  · replace c37 := Bool.eq_false_iff.mpr c37
                                                    subst c37
                                                    have H1 : (zoneinfolaw12_DesigsBuildThenName.l1 k5 l0 t216 t217 x5_3 x6_3 ((rdOf ByteArray.empty l0 x10_5).toList == (rdOf ByteArray.empty l0 x6_3).toList) (wrap64 (x10_5 + 1))) = some r := by rw [if_neg (show ¬ (false = true) by decide)] at H; exact H
                                                    clear H
                                                    have H := H1
                                                    clear H1
                                                    have H' := Aside0.mk H
                                                    clear H
                                                    have p227 : 0 ≤ (x10_5 : Int) := of_decide_eq_true (by first | (with_reducible assumption) | assumption)
                                                    have q227 : x10_5 < (t217.length : Int) := of_decide_eq_true (by first | (with_reducible assumption) | assumption)
                                                    obtain ⟨ad227, e227, hx227_0⟩ := Kd.at_int (Kd.R_reads' HO_4.out).2.2 x10_5 p227 q227
                                                    obtain rfl : ad223 = ad227 := (by injection e227)
                                                    replace p227 := eq_true p227
                                                    replace q227 := eq_true q227
                                                    have p228 : 0 ≤ (x6_3 : Int) := of_decide_eq_true (by first | (with_reducible assumption) | assumption)
                                                    have q228 : x6_3 < (t217.length : Int) := of_decide_eq_true (by first | (with_reducible assumption) | assumption)
                                                    obtain ⟨ad228, e228, hx228_0⟩ := Kd.at_int (Kd.R_reads' HO_4.out).2.2 x6_3 p228 q228
                                                    obtain rfl : ad223 = ad228 := (by injection e228)
                                                    replace p228 := eq_true p228
                                                    replace q228 := eq_true q228
                                                    have p229 : 0 ≤ (x10_5 : Int) := of_decide_eq_true (by first | (with_reducible assumption) | assumption)
                                                    have q229 : x10_5 < (l0.length : Int) := of_decide_eq_true (by first | (with_reducible assumption) | assumption)
                                                    obtain ⟨ad229, e229, hx229_0⟩ := Kd.at_string HR0.out x10_5 p229 q229
                                                    cases e229
                                                    replace hx229_0 := (HB.out.cell (World.block_lt_of_cell? w _ hx229_0)).trans hx229_0
                                                    replace p229 := eq_true p229
                                                    replace q229 := eq_true q229
                                                    have p230 : 0 ≤ (x6_3 : Int) := of_decide_eq_true (by first | (with_reducible assumption) | assumption)
                                                    have q230 : x6_3 < (l0.length : Int) := of_decide_eq_true (by first | (with_reducible assumption) | assumption)
                                                    obtain ⟨ad230, e230, hx230_0⟩ := Kd.at_string HR0.out x6_3 p230 q230
                                                    obtain rfl : ad229 = ad230 := (by injection e230)
                                                    replace hx230_0 := (HB.out.cell (World.block_lt_of_cell? w _ hx230_0)).trans hx230_0
                                                    replace p230 := eq_true p230
                                                    replace q230 := eq_true q230
                                                    have p231 : 0 ≤ (x10_5 : Int) := of_decide_eq_true (by first | (with_reducible assumption) | assumption)
                                                    have q231 : x10_5 < (l0.length : Int) := of_decide_eq_true (by first | (with_reducible assumption) | assumption)
                                                    obtain ⟨ad231, e231, hx231_0⟩ := Kd.at_string HR0.out x10_5 p231 q231
                                                    obtain rfl : ad229 = ad231 := (by injection e231)
                                                    replace hx231_0 := (HB.out.cell (World.block_lt_of_cell? w _ hx231_0)).trans hx231_0
                                                    replace p231 := eq_true p231
                                                    replace q231 := eq_true q231
                                                    have p232 : 0 ≤ (x6_3 : Int) := of_decide_eq_true (by first | (with_reducible assumption) | assumption)
                                                    have q232 : x6_3 < (l0.length : Int) := of_decide_eq_true (by first | (with_reducible assumption) | assumption)
                                                    obtain ⟨ad232, e232, hx232_0⟩ := Kd.at_string HR0.out x6_3 p232 q232
                                                    obtain rfl : ad229 = ad232 := (by injection e232)
                                                    replace hx232_0 := (HB.out.cell (World.block_lt_of_cell? w _ hx232_0)).trans hx232_0
                                                    replace p232 := eq_true p232
                                                    replace q232 := eq_true q232
                                                    go_wp2
                                                    repeat (go_quiet (fail); try go_wp2)
                                                    go_roundg k5
                                                    case measure => have := HJ1.out; have := HJ11.out; have := HK3.out; have := HJ22.out; have := HK5.out; omega
                                                    case rel => exact ⟨(((rdOf ByteArray.empty l0 x10_5).toList == (rdOf ByteArray.empty l0 x6_3).toList)), (wrap64 (x10_5 + 1)), (by first | rfl | (simp; done) | (simp [*]; done)), (by first | rfl | (simp; done) | (simp [*]; done)), H', ⟨by have := HJ1.out; have := HJ11.out; have := HK3.out; have := HJ22.out; have := HK5.out; omega⟩, ⟨by (with_reducible repeat (first | apply Kd.R_alloc | apply Kd.R_drewN | apply Kd.R_drew)); exact HO_3.out⟩, ⟨by (with_reducible repeat (first | apply Kd.R_alloc | apply Kd.R_drewN | apply Kd.R_drew)); exact HO_4.out⟩, ⟨by repeat (first | (with_reducible first | exact HB.out | apply below_alloc | apply pw_below_drewN | apply below_drew1) | exact HB.out)⟩⟩
                                              · rw [if_neg c35] at H
                                                exact absurd H (by simp)
                                            · rw [if_neg c34] at H
                                              exact absurd H (by simp)
                                          · rw [if_neg c33] at H
                                            exact absurd H (by simp)
                                        · rw [if_neg c32] at H
                                          exact absurd H (by simp)
                                      · rw [if_neg c31] at H
                                        exact absurd H (by simp)
                                    · rw [if_neg c30] at H
                                      exact absurd H (by simp)
                                  · rw [if_neg c29] at H
                                    have c29b0 : decide (x10_5 < x6_3) = false := decide_eq_false c29
                                    clear c29
                                    by_cases c38 : x9_5 = true
                                    · subst c38
                                      have H1 : (zoneinfolaw12_DesigsBuildThenName.l0 k5 l0 t216 t217 x5_3 (wrap64 (x6_3 + 1))) = some r := by rw [if_pos rfl] at H; exact H
                                      clear H
                                      have H := H1
                                      clear H1
                                      have H' := Aside0.mk H
                                      clear H
                                      go_wp2
                                      repeat (go_quiet (fail); try go_wp2)
                                      go_roundg k5
                                      case measure => have := HJ1.out; have := HJ11.out; have := HK3.out; have := HJ22.out; have := HK5.out; omega
                                      case rel => exact ⟨(x5_3), (wrap64 (x6_3 + 1)), (by first | rfl | (simp; done) | (simp [*]; done)), (by first | rfl | (simp; done) | (simp [*]; done)), H', ⟨by have := HJ1.out; have := HJ11.out; have := HK3.out; have := HJ22.out; have := HK5.out; omega⟩, ⟨by (with_reducible repeat (first | apply Kd.R_alloc | apply Kd.R_drewN | apply Kd.R_drew)); exact HO_3.out⟩, ⟨by (with_reducible repeat (first | apply Kd.R_alloc | apply Kd.R_drewN | apply Kd.R_drew)); exact HO_4.out⟩, ⟨by repeat (first | (with_reducible first | exact HB.out | apply below_alloc | apply pw_below_drewN | apply below_drew1) | exact HB.out)⟩⟩
                                    · replace c38 := Bool.eq_false_iff.mpr c38
                                      subst c38
                                      have H1 : (if 0 ≤ x6_3 then (if x6_3 < (l0.length : Int) then (zoneinfolaw12_DesigsBuildThenName.l0 k5 l0 t216 t217 (wrap64 ((wrap64 (x5_3 + ((rdOf ByteArray.empty l0 x6_3).size : Int))) + 1)) (wrap64 (x6_3 + 1))) else (none)) else (none)) = some r := by rw [if_neg (show ¬ (false = true) by decide)] at H; exact H
                                      clear H
                                      have H := H1
                                      clear H1
                                      by_cases c39 : 0 ≤ x6_3
                                      · rw [if_pos c39] at H
                                        have c39b0 : decide (0 ≤ x6_3) = true := decide_eq_true c39
                                        clear c39
                                        by_cases c40 : x6_3 < (l0.length : Int)
                                        · rw [if_pos c40] at H
                                          have c40b0 : decide (x6_3 < (l0.length : Int)) = true := decide_eq_true c40
                                          clear c40
                                          have H' := Aside0.mk H
                                          clear H
                                          have p233 : 0 ≤ (x6_3 : Int) := of_decide_eq_true (by first | (with_reducible assumption) | assumption)
                                          have q233 : x6_3 < (l0.length : Int) := of_decide_eq_true (by first | (with_reducible assumption) | assumption)
                                          obtain ⟨ad233, e233, hx233_0⟩ := Kd.at_string HR0.out x6_3 p233 q233
                                          cases e233
                                          replace hx233_0 := (HB.out.cell (World.block_lt_of_cell? w _ hx233_0)).trans hx233_0
                                          replace p233 := eq_true p233
                                          replace q233 := eq_true q233
                                          go_wp2
                                          repeat (go_quiet (fail); try go_wp2)
                                          go_roundg k5
                                          case measure => have := HJ1.out; have := HJ11.out; have := HK3.out; have := HJ22.out; have := HK5.out; omega
                                          case rel => exact ⟨(wrap64 ((wrap64 (x5_3 + ((rdOf ByteArray.empty l0 x6_3).size : Int))) + 1)), (wrap64 (x6_3 + 1)), (by first | rfl | (simp; done) | (simp [*]; done)), (by first | rfl | (simp; done) | (simp [*]; done)), H', ⟨by have := HJ1.out; have := HJ11.out; have := HK3.out; have := HJ22.out; have := HK5.out; omega⟩, ⟨by (with_reducible repeat (first | apply Kd.R_alloc | apply Kd.R_drewN | apply Kd.R_drew)); exact HO_3.out⟩, ⟨by (with_reducible repeat (first | apply Kd.R_alloc | apply Kd.R_drewN | apply Kd.R_drew)); exact HO_4.out⟩, ⟨by repeat (first | (with_reducible first | exact HB.out | apply below_alloc | apply pw_below_drewN | apply below_drew1) | exact HB.out)⟩⟩
                                        · rw [if_neg c40] at H
                                          exact absurd H (by simp)
                                      · rw [if_neg c39] at H
                                        exact absurd H (by simp)
                      · rw [if_neg c21] at H
                        exact absurd H (by simp)
                    · rw [if_neg c20] at H
                      exact absurd H (by simp)
                  · rw [if_neg c19] at H
                    have c19b0 : decide (x6_3 < (l0.length : Int)) = false := decide_eq_false c19
                    clear c19
                    obtain ⟨ji41, hji41⟩ : ∃ j_ : Int, (mx x5_3 1) = j_ := ⟨_, rfl⟩
                    replace H : (some ((t216.length : Int) == (ji41))) = some r := by first | (rw [hji41] at H; exact H) | (simp only [hji41] at H ⊢; exact H)
                    have hji41_ : (if x5_3 < 1 then 1 else x5_3) = ji41 := hji41
                    obtain rfl := Option.some.inj H
                    obtain ⟨Ao42, co42, eo42⟩ := Kd.R_slice HO_3.out
                    subst eo42
                    go_wp2
                    repeat (go_quiet (fail); try go_wp2)
                    go_ret
                    exact ⟨by first | rfl | (simp [errW_none, errW_some] <;> rfl) | (simp only [← hji41]; first | rfl | (simp [errW_none, errW_some] <;> rfl)) | (simp [*, errW_none, errW_some] <;> rfl), by repeat (first | (with_reducible first | exact HB.out | apply below_alloc | apply pw_below_drewN | apply below_drew1) | exact HB.out)⟩

end Go.Proofs.Ytchlggnbgabddaa.G
