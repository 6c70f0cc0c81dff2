/- Written by a program of this session for this seat: contracts of the functions that its laws reach, or the row of a law over its plain part. -/
import Derived.Test.YtchlggnbgabddaaGx0
import Derived.Test.YtchlggnbgabddaaGx4
import Derived.Test.YtchlggnbgabddaaGx5
import Derived.Test.YtchlggnbgabddaaGx15
import Derived.Test.YtchlggnbgabddaaGx17
import Derived.Test.YtchlggnbgabddaaGx18
import Derived.Test.YtchlggnbgabddaaGx20
import Derived.Test.YtchlggnbgabddaaGx21
import Derived.Test.YtchlggnbgabddaaGx22
import Derived.Test.YtchlggnbgabddaaGx23
import Derived.Test.YtchlggnbgabddaaGx24
import Derived.Test.YtchlggnbgabddaaGx25
namespace Go.Proofs.Ytchlggnbgabddaa.G
open Go.RowKit Go.Proofs.YtchlggnbgabddaaW.PrintWords Go.Proofs.YtchlggnbgabddaaW.PrintLast Go.Proofs.YtchlggnbgabddaaW.PrintMore
attribute [local go_sem] max2_int min2_int max_two min_two max_three min_three max_four min_four   -- for this text's walks alone
set_option linter.unusedVariables false
set_option linter.unusedSimpArgs false

/-! ### zoneinfolaw12_DesigsMatchReference: function 3 -/
mutual
def zoneinfolaw12_DesigsMatchReference.j0 : Nat → List Int → Int → List ByteArray → Bool → Option (Bool)
  | 0, _, _, _, _ => none
  | k + 1, x0, x1, x2, x27 => if x27 = true then ((zoneinfolaw12_awake.f k).bind fun t187 => (some t187)) else ((desigs_Valid.f k x0).bind fun t188 => ((zoneinforef12_Valid.f k x0).bind fun t189 => (if (t188 != t189) = true then (none) else ((desigs_Bad.f k x0).bind fun t190 => ((zoneinforef12_Bad.f k x0).bind fun t191 => (zoneinfolaw12_DesigsMatchReference.j1 k x0 x1 x2 (t190 != t191)))))))
def zoneinfolaw12_DesigsMatchReference.j1 : Nat → List Int → Int → List ByteArray → Bool → Option (Bool)
  | 0, _, _, _, _ => none
  | k + 1, x0, x1, x2, x40 => if x40 = true then (none) else ((zoneinforef12_Valid.f k x0).bind fun t192 => (if t192 = true then ((desigs_Name.f x0 x1).bind fun bt193 => ((zoneinforef12_Name.f k x0 x1).bind fun bt195 => (if bt193.1.toList = bt195.1.toList then (if (bt193.2 != bt195.2) = true then (none) else (zoneinfolaw12_DesigsMatchReference.j2 k x2)) else (none)))) else (zoneinfolaw12_DesigsMatchReference.j2 k x2)))
def zoneinfolaw12_DesigsMatchReference.j2 : Nat → List ByteArray → Option (Bool)
  | 0, _ => none
  | k + 1, x2 => (zoneinforef12_Plain.f k x2).bind fun t197 => (if t197 = true then ((desigs_Build.f x2).bind fun bt198 => ((zoneinforef12_Build.f k x2).bind fun bt204 => ((zoneinforef01_Same.f k bt198.1 bt204.1).bind fun t210 => (if t210 = true then (zoneinfolaw12_DesigsMatchReference.j3 k bt198.2 bt204.2 ((bt198.2.length : Int) != (bt204.2.length : Int))) else (none))))) else (some true))
def zoneinfolaw12_DesigsMatchReference.j3 : Nat → List Int → List Int → Bool → Option (Bool)
  | 0, _, _, _ => none
  | k + 1, x12, x14, x86 => if x86 = true then (none) else (zoneinfolaw12_DesigsMatchReference.l0 k x12 x14 0)
def zoneinfolaw12_DesigsMatchReference.l0 : Nat → List Int → List Int → Int → Option (Bool)
  | 0, _, _, _ => none
  | k + 1, x12, x14, x15 => if x15 < (x12.length : Int) then (if 0 ≤ x15 then (if x15 < (x14.length : Int) then (if (rd x12 x15) = (rd x14 x15) then (zoneinfolaw12_DesigsMatchReference.l0 k x12 x14 (wrap64 (x15 + 1))) else (none)) else (none)) else (none)) else (some true)
end
def zoneinfolaw12_DesigsMatchReference.f (k : Nat) (l0 : List Int) (a1 : Int) (l2 : List ByteArray) : Option (Bool) := (zoneinfolaw12_awake.f k).bind fun t186 => (if t186 = true then (if (l0.length : Int) > 1000 then (zoneinfolaw12_DesigsMatchReference.j0 k l0 a1 l2 true) else (zoneinfolaw12_DesigsMatchReference.j0 k l0 a1 l2 (decide ((l2.length : Int) > 60)))) else (zoneinfolaw12_DesigsMatchReference.j0 k l0 a1 l2 true))
theorem zoneinfolaw12_DesigsMatchReference.mono_l : ∀ k, (∀ y0 y1 y2 y3, LeO (zoneinfolaw12_DesigsMatchReference.j0 k y0 y1 y2 y3) (zoneinfolaw12_DesigsMatchReference.j0 (k + 1) y0 y1 y2 y3)) ∧ (∀ y0 y1 y2 y3, LeO (zoneinfolaw12_DesigsMatchReference.j1 k y0 y1 y2 y3) (zoneinfolaw12_DesigsMatchReference.j1 (k + 1) y0 y1 y2 y3)) ∧ (∀ y0, LeO (zoneinfolaw12_DesigsMatchReference.j2 k y0) (zoneinfolaw12_DesigsMatchReference.j2 (k + 1) y0)) ∧ (∀ y0 y1 y2, LeO (zoneinfolaw12_DesigsMatchReference.j3 k y0 y1 y2) (zoneinfolaw12_DesigsMatchReference.j3 (k + 1) y0 y1 y2)) ∧ (∀ y0 y1 y2, LeO (zoneinfolaw12_DesigsMatchReference.l0 k y0 y1 y2) (zoneinfolaw12_DesigsMatchReference.l0 (k + 1) y0 y1 y2))
  | 0 => ⟨fun _ _ _ _ r h => by simp [zoneinfolaw12_DesigsMatchReference.j0] at h, fun _ _ _ _ r h => by simp [zoneinfolaw12_DesigsMatchReference.j1] at h, fun _ r h => by simp [zoneinfolaw12_DesigsMatchReference.j2] at h, fun _ _ _ r h => by simp [zoneinfolaw12_DesigsMatchReference.j3] at h, fun _ _ _ r h => by simp [zoneinfolaw12_DesigsMatchReference.l0] at h⟩
  | k + 1 => by
    obtain ⟨ih0, ih1, ih2, ih3, ih4⟩ := zoneinfolaw12_DesigsMatchReference.mono_l k
    refine ⟨?_, ?_, ?_, ?_, ?_⟩
    · intro y0 y1 y2 y3
      unfold zoneinfolaw12_DesigsMatchReference.j0
      repeat' first
      | (with_reducible exact ih0 _ _ _ _)
      | (with_reducible exact ih1 _ _ _ _)
      | (with_reducible exact ih2 _)
      | (with_reducible exact ih3 _ _ _)
      | (with_reducible exact ih4 _ _ _)
      | (with_reducible exact desigs_Bad.mono _ _)
      | (with_reducible exact desigs_Valid.mono _ _)
      | (with_reducible exact zoneinfolaw12_awake.mono _)
      | (with_reducible exact zoneinforef01_Same.mono _ _ _)
      | (with_reducible exact zoneinforef12_Bad.mono _ _)
      | (with_reducible exact zoneinforef12_Build.mono _ _)
      | (with_reducible exact zoneinforef12_Name.mono _ _ _)
      | (with_reducible exact zoneinforef12_Plain.mono _ _)
      | (with_reducible exact zoneinforef12_Valid.mono _ _)
      | (with_reducible exact LeO.refl _)
      | (with_reducible exact LeO.none _)
      | (with_reducible refine LeO.ite ?_ ?_)
      | (with_reducible refine LeO.bind ?_ (fun _ => ?_))
      | exact ih0 _ _ _ _
      | exact ih1 _ _ _ _
      | exact ih2 _
      | exact ih3 _ _ _
      | exact ih4 _ _ _
      | exact desigs_Bad.mono _ _
      | exact desigs_Valid.mono _ _
      | exact zoneinfolaw12_awake.mono _
      | exact zoneinforef01_Same.mono _ _ _
      | exact zoneinforef12_Bad.mono _ _
      | exact zoneinforef12_Build.mono _ _
      | exact zoneinforef12_Name.mono _ _ _
      | exact zoneinforef12_Plain.mono _ _
      | exact zoneinforef12_Valid.mono _ _
      | exact LeO.none _
      | refine LeO.ite ?_ ?_
      | refine LeO.bind ?_ (fun _ => ?_)
    · intro y0 y1 y2 y3
      unfold zoneinfolaw12_DesigsMatchReference.j1
      repeat' first
      | (with_reducible exact ih0 _ _ _ _)
      | (with_reducible exact ih1 _ _ _ _)
      | (with_reducible exact ih2 _)
      | (with_reducible exact ih3 _ _ _)
      | (with_reducible exact ih4 _ _ _)
      | (with_reducible exact desigs_Bad.mono _ _)
      | (with_reducible exact desigs_Valid.mono _ _)
      | (with_reducible exact zoneinfolaw12_awake.mono _)
      | (with_reducible exact zoneinforef01_Same.mono _ _ _)
      | (with_reducible exact zoneinforef12_Bad.mono _ _)
      | (with_reducible exact zoneinforef12_Build.mono _ _)
      | (with_reducible exact zoneinforef12_Name.mono _ _ _)
      | (with_reducible exact zoneinforef12_Plain.mono _ _)
      | (with_reducible exact zoneinforef12_Valid.mono _ _)
      | (with_reducible exact LeO.refl _)
      | (with_reducible exact LeO.none _)
      | (with_reducible refine LeO.ite ?_ ?_)
      | (with_reducible refine LeO.bind ?_ (fun _ => ?_))
      | exact ih0 _ _ _ _
      | exact ih1 _ _ _ _
      | exact ih2 _
      | exact ih3 _ _ _
      | exact ih4 _ _ _
      | exact desigs_Bad.mono _ _
      | exact desigs_Valid.mono _ _
      | exact zoneinfolaw12_awake.mono _
      | exact zoneinforef01_Same.mono _ _ _
      | exact zoneinforef12_Bad.mono _ _
      | exact zoneinforef12_Build.mono _ _
      | exact zoneinforef12_Name.mono _ _ _
      | exact zoneinforef12_Plain.mono _ _
      | exact zoneinforef12_Valid.mono _ _
      | exact LeO.none _
      | refine LeO.ite ?_ ?_
      | refine LeO.bind ?_ (fun _ => ?_)
    · intro y0
      unfold zoneinfolaw12_DesigsMatchReference.j2
      repeat' first
      | (with_reducible exact ih0 _ _ _ _)
      | (with_reducible exact ih1 _ _ _ _)
      | (with_reducible exact ih2 _)
      | (with_reducible exact ih3 _ _ _)
      | (with_reducible exact ih4 _ _ _)
      | (with_reducible exact desigs_Bad.mono _ _)
      | (with_reducible exact desigs_Valid.mono _ _)
      | (with_reducible exact zoneinfolaw12_awake.mono _)
      | (with_reducible exact zoneinforef01_Same.mono _ _ _)
      | (with_reducible exact zoneinforef12_Bad.mono _ _)
      | (with_reducible exact zoneinforef12_Build.mono _ _)
      | (with_reducible exact zoneinforef12_Name.mono _ _ _)
      | (with_reducible exact zoneinforef12_Plain.mono _ _)
      | (with_reducible exact zoneinforef12_Valid.mono _ _)
      | (with_reducible exact LeO.refl _)
      | (with_reducible exact LeO.none _)
      | (with_reducible refine LeO.ite ?_ ?_)
      | (with_reducible refine LeO.bind ?_ (fun _ => ?_))
      | exact ih0 _ _ _ _
      | exact ih1 _ _ _ _
      | exact ih2 _
      | exact ih3 _ _ _
      | exact ih4 _ _ _
      | exact desigs_Bad.mono _ _
      | exact desigs_Valid.mono _ _
      | exact zoneinfolaw12_awake.mono _
      | exact zoneinforef01_Same.mono _ _ _
      | exact zoneinforef12_Bad.mono _ _
      | exact zoneinforef12_Build.mono _ _
      | exact zoneinforef12_Name.mono _ _ _
      | exact zoneinforef12_Plain.mono _ _
      | exact zoneinforef12_Valid.mono _ _
      | exact LeO.none _
      | refine LeO.ite ?_ ?_
      | refine LeO.bind ?_ (fun _ => ?_)
    · intro y0 y1 y2
      unfold zoneinfolaw12_DesigsMatchReference.j3
      repeat' first
      | (with_reducible exact ih0 _ _ _ _)
      | (with_reducible exact ih1 _ _ _ _)
      | (with_reducible exact ih2 _)
      | (with_reducible exact ih3 _ _ _)
      | (with_reducible exact ih4 _ _ _)
      | (with_reducible exact desigs_Bad.mono _ _)
      | (with_reducible exact desigs_Valid.mono _ _)
      | (with_reducible exact zoneinfolaw12_awake.mono _)
      | (with_reducible exact zoneinforef01_Same.mono _ _ _)
      | (with_reducible exact zoneinforef12_Bad.mono _ _)
      | (with_reducible exact zoneinforef12_Build.mono _ _)
      | (with_reducible exact zoneinforef12_Name.mono _ _ _)
      | (with_reducible exact zoneinforef12_Plain.mono _ _)
      | (with_reducible exact zoneinforef12_Valid.mono _ _)
      | (with_reducible exact LeO.refl _)
      | (with_reducible exact LeO.none _)
      | (with_reducible refine LeO.ite ?_ ?_)
      | (with_reducible refine LeO.bind ?_ (fun _ => ?_))
      | exact ih0 _ _ _ _
      | exact ih1 _ _ _ _
      | exact ih2 _
      | exact ih3 _ _ _
      | exact ih4 _ _ _
      | exact desigs_Bad.mono _ _
      | exact desigs_Valid.mono _ _
      | exact zoneinfolaw12_awake.mono _
      | exact zoneinforef01_Same.mono _ _ _
      | exact zoneinforef12_Bad.mono _ _
      | exact zoneinforef12_Build.mono _ _
      | exact zoneinforef12_Name.mono _ _ _
      | exact zoneinforef12_Plain.mono _ _
      | exact zoneinforef12_Valid.mono _ _
      | exact LeO.none _
      | refine LeO.ite ?_ ?_
      | refine LeO.bind ?_ (fun _ => ?_)
    · intro y0 y1 y2
      unfold zoneinfolaw12_DesigsMatchReference.l0
      repeat' first
      | (with_reducible exact ih0 _ _ _ _)
      | (with_reducible exact ih1 _ _ _ _)
      | (with_reducible exact ih2 _)
      | (with_reducible exact ih3 _ _ _)
      | (with_reducible exact ih4 _ _ _)
      | (with_reducible exact desigs_Bad.mono _ _)
      | (with_reducible exact desigs_Valid.mono _ _)
      | (with_reducible exact zoneinfolaw12_awake.mono _)
      | (with_reducible exact zoneinforef01_Same.mono _ _ _)
      | (with_reducible exact zoneinforef12_Bad.mono _ _)
      | (with_reducible exact zoneinforef12_Build.mono _ _)
      | (with_reducible exact zoneinforef12_Name.mono _ _ _)
      | (with_reducible exact zoneinforef12_Plain.mono _ _)
      | (with_reducible exact zoneinforef12_Valid.mono _ _)
      | (with_reducible exact LeO.refl _)
      | (with_reducible exact LeO.none _)
      | (with_reducible refine LeO.ite ?_ ?_)
      | (with_reducible refine LeO.bind ?_ (fun _ => ?_))
      | exact ih0 _ _ _ _
      | exact ih1 _ _ _ _
      | exact ih2 _
      | exact ih3 _ _ _
      | exact ih4 _ _ _
      | exact desigs_Bad.mono _ _
      | exact desigs_Valid.mono _ _
      | exact zoneinfolaw12_awake.mono _
      | exact zoneinforef01_Same.mono _ _ _
      | exact zoneinforef12_Bad.mono _ _
      | exact zoneinforef12_Build.mono _ _
      | exact zoneinforef12_Name.mono _ _ _
      | exact zoneinforef12_Plain.mono _ _
      | exact zoneinforef12_Valid.mono _ _
      | exact LeO.none _
      | refine LeO.ite ?_ ?_
      | refine LeO.bind ?_ (fun _ => ?_)
theorem zoneinfolaw12_DesigsMatchReference.mono : ∀ a0 a1 a2 k, LeO (zoneinfolaw12_DesigsMatchReference.f k a0 a1 a2) (zoneinfolaw12_DesigsMatchReference.f (k + 1) a0 a1 a2) := by
  intro a0 a1 a2 k
  obtain ⟨ih0, ih1, ih2, ih3, ih4⟩ := zoneinfolaw12_DesigsMatchReference.mono_l k
  unfold zoneinfolaw12_DesigsMatchReference.f
  repeat' first
      | (with_reducible exact ih0 _ _ _ _)
      | (with_reducible exact ih1 _ _ _ _)
      | (with_reducible exact ih2 _)
      | (with_reducible exact ih3 _ _ _)
      | (with_reducible exact ih4 _ _ _)
      | (with_reducible exact desigs_Bad.mono _ _)
      | (with_reducible exact desigs_Valid.mono _ _)
      | (with_reducible exact zoneinfolaw12_awake.mono _)
      | (with_reducible exact zoneinforef01_Same.mono _ _ _)
      | (with_reducible exact zoneinforef12_Bad.mono _ _)
      | (with_reducible exact zoneinforef12_Build.mono _ _)
      | (with_reducible exact zoneinforef12_Name.mono _ _ _)
      | (with_reducible exact zoneinforef12_Plain.mono _ _)
      | (with_reducible exact zoneinforef12_Valid.mono _ _)
      | (with_reducible exact LeO.refl _)
      | (with_reducible exact LeO.none _)
      | (with_reducible refine LeO.ite ?_ ?_)
      | (with_reducible refine LeO.bind ?_ (fun _ => ?_))
      | exact ih0 _ _ _ _
      | exact ih1 _ _ _ _
      | exact ih2 _
      | exact ih3 _ _ _
      | exact ih4 _ _ _
      | exact desigs_Bad.mono _ _
      | exact desigs_Valid.mono _ _
      | exact zoneinfolaw12_awake.mono _
      | exact zoneinforef01_Same.mono _ _ _
      | exact zoneinforef12_Bad.mono _ _
      | exact zoneinforef12_Build.mono _ _
      | exact zoneinforef12_Name.mono _ _ _
      | exact zoneinforef12_Plain.mono _ _
      | exact zoneinforef12_Valid.mono _ _
      | exact LeO.none _
      | refine LeO.ite ?_ ?_
      | refine LeO.bind ?_ (fun _ => ?_)
set_option maxHeartbeats 8000000 in
set_option maxRecDepth 100000 in
theorem zoneinfolaw12_DesigsMatchReference.calls (k : Nat) (A0 : Option Addr) (c0 : Nat) (l0 : List Int) (a1 : Int) (A2 : Option Addr) (c2 : Nat) (l2 : List ByteArray) (r : Bool) (w : World) (hr0 : Kd.C (Kd.int .u8) w A0 l0.length l0) (hc0 : l0.length ≤ c0) (hr2 : Kd.C Kd.string w A2 l2.length l2) (hc2 : l2.length ≤ c2) (h : zoneinfolaw12_DesigsMatchReference.f k l0 a1 l2 = some r) :
    Calls Try.prog 3 #[.slice A0 l0.length c0, .int .i64 a1, .slice A2 l2.length c2] w fun e w' => e = .returned (.bool r) ∧ Below w.heap.size w w' := by
  have HR0 := Aside0.mk hr0
  have HC0 := Aside0.mk hc0
  clear hr0 hc0
  have HR2 := Aside0.mk hr2
  have HC2 := Aside0.mk hc2
  clear hr2 hc2
  have HB := Aside0.mk (Below.refl w.heap.size w)
  have H : ((zoneinfolaw12_awake.f k).bind fun t186 => (if t186 = true then (if (l0.length : Int) > 1000 then (zoneinfolaw12_DesigsMatchReference.j0 k l0 a1 l2 true) else (zoneinfolaw12_DesigsMatchReference.j0 k l0 a1 l2 (decide ((l2.length : Int) > 60)))) else (zoneinfolaw12_DesigsMatchReference.j0 k l0 a1 l2 true))) = some r := h
  clear h
  have HC4 := Aside0.mk H
  clear H
  go_enter Try.func3, Try.ntmps3
  (try simp only [List.append_eq, List.cons_append, List.nil_append])
  go_upto_region 1 with (fail)
  repeat (go_quiet (fail); go_upto_region 1 with (fail))
  go_cut [27] (fun v27 wc => ∃ (kq : Nat) (x27_3 : Bool), v27 = .bool x27_3 ∧ Aside0 (zoneinfolaw12_DesigsMatchReference.j0 kq l0 a1 l2 x27_3 = some r) ∧ Aside0 (kq ≤ k) ∧ Aside0 (Below w.heap.size w wc))
  case first =>
    have H := HC4.out
    clear HC4
    replace H := Option.bind_eq_some_iff.mp H
    obtain ⟨t186, A50, H⟩ := H
    replace H : (if t186 = true then (if (l0.length : Int) > 1000 then (zoneinfolaw12_DesigsMatchReference.j0 k l0 a1 l2 true) else (zoneinfolaw12_DesigsMatchReference.j0 k l0 a1 l2 (decide ((l2.length : Int) > 60)))) else (zoneinfolaw12_DesigsMatchReference.j0 k l0 a1 l2 true)) = some r := H
    have A5 := Aside0.mk A50
    clear A50
    by_cases c6 : t186 = true
    · subst c6
      have H1 : (if (l0.length : Int) > 1000 then (zoneinfolaw12_DesigsMatchReference.j0 k l0 a1 l2 true) else (zoneinfolaw12_DesigsMatchReference.j0 k l0 a1 l2 (decide ((l2.length : Int) > 60)))) = some r := by rw [if_pos rfl] at H; exact H
      clear H
      have H := H1
      clear H1
      by_cases c7 : (l0.length : Int) > 1000
      · rw [if_pos c7] at H
        have c7b0 : decide (1000 < (l0.length : Int)) = true := decide_eq_true c7
        have c7b1 : decide (1000 < l0.length) = true := decide_eq_true (by omega)
        clear c7
        (first | rw [c7b0] | (simp only [i64_w, i32_w]; rw [c7b0]) | skip)
        have H' := Aside0.mk H
        clear H
        go_wp2_with (first | (go_at_call 8; (with_reducible refine (zoneinfolaw12_awake.calls k  true _ A5.out).mono ?_); rintro e w8 ⟨rfl, hb⟩; have n0_ := Aside0.mk (below_step (by repeat (first | (with_reducible first | exact HB.out | apply below_alloc | apply pw_below_drewN | apply below_drew1) | exact HB.out)) hb); clear HB; have HB := n0_; clear n0_; (try clear hb); (try clear hb2); (try clear hk); (try clear hi)))
        repeat (go_quiet (first | (go_at_call 8; (with_reducible refine (zoneinfolaw12_awake.calls k  true _ A5.out).mono ?_); rintro e w8 ⟨rfl, hb⟩; have n0_ := Aside0.mk (below_step (by repeat (first | (with_reducible first | exact HB.out | apply below_alloc | apply pw_below_drewN | apply below_drew1) | exact HB.out)) hb); clear HB; have HB := n0_; clear n0_; (try clear hb); (try clear hb2); (try clear hk); (try clear hi))); try go_wp2_with (first | (go_at_call 8; (with_reducible refine (zoneinfolaw12_awake.calls k  true _ A5.out).mono ?_); rintro e w8 ⟨rfl, hb⟩; have n0_ := Aside0.mk (below_step (by repeat (first | (with_reducible first | exact HB.out | apply below_alloc | apply pw_below_drewN | apply below_drew1) | exact HB.out)) hb); clear HB; have HB := n0_; clear n0_; (try clear hb); (try clear hb2); (try clear hk); (try clear hi))))
        go_meet
        case rel => exact ⟨_, (true), (by first | rfl | (simp; done) | (simp [*]; done)), H', ⟨by first | omega | exact Nat.le_refl _⟩, ⟨by repeat (first | (with_reducible first | exact HB.out | apply below_alloc | apply pw_below_drewN | apply below_drew1) | exact HB.out)⟩⟩
      · rw [if_neg c7] at H
        have c7b0 : decide (1000 < (l0.length : Int)) = false := decide_eq_false c7
        have c7b1 : decide (1000 < l0.length) = false := decide_eq_false (by omega)
        clear c7
        (first | rw [c7b0] | (simp only [i64_w, i32_w]; rw [c7b0]) | skip)
        have H' := Aside0.mk H
        clear H
        go_wp2_with (first | (go_at_call 8; (with_reducible refine (zoneinfolaw12_awake.calls k  true _ A5.out).mono ?_); rintro e w9 ⟨rfl, hb⟩; have n0_ := Aside0.mk (below_step (by repeat (first | (with_reducible first | exact HB.out | apply below_alloc | apply pw_below_drewN | apply below_drew1) | exact HB.out)) hb); clear HB; have HB := n0_; clear n0_; (try clear hb); (try clear hb2); (try clear hk); (try clear hi)))
        repeat (go_quiet (first | (go_at_call 8; (with_reducible refine (zoneinfolaw12_awake.calls k  true _ A5.out).mono ?_); rintro e w9 ⟨rfl, hb⟩; have n0_ := Aside0.mk (below_step (by repeat (first | (with_reducible first | exact HB.out | apply below_alloc | apply pw_below_drewN | apply below_drew1) | exact HB.out)) hb); clear HB; have HB := n0_; clear n0_; (try clear hb); (try clear hb2); (try clear hk); (try clear hi))); try go_wp2_with (first | (go_at_call 8; (with_reducible refine (zoneinfolaw12_awake.calls k  true _ A5.out).mono ?_); rintro e w9 ⟨rfl, hb⟩; have n0_ := Aside0.mk (below_step (by repeat (first | (with_reducible first | exact HB.out | apply below_alloc | apply pw_below_drewN | apply below_drew1) | exact HB.out)) hb); clear HB; have HB := n0_; clear n0_; (try clear hb); (try clear hb2); (try clear hk); (try clear hi))))
        go_meet
        case rel => exact ⟨_, (decide ((l2.length : Int) > 60)), (by first | rfl | (simp; done) | (simp [*]; done)), H', ⟨by first | omega | exact Nat.le_refl _⟩, ⟨by repeat (first | (with_reducible first | exact HB.out | apply below_alloc | apply pw_below_drewN | apply below_drew1) | exact HB.out)⟩⟩
    · replace c6 := Bool.eq_false_iff.mpr c6
      subst c6
      have H1 : (zoneinfolaw12_DesigsMatchReference.j0 k l0 a1 l2 true) = some r := by rw [if_neg (show ¬ (false = true) by decide)] at H; exact H
      clear H
      have H := H1
      clear H1
      have H' := Aside0.mk H
      clear H
      go_wp2_with (first | (go_at_call 8; (with_reducible refine (zoneinfolaw12_awake.calls k  false _ A5.out).mono ?_); rintro e w10 ⟨rfl, hb⟩; have n0_ := Aside0.mk (below_step (by repeat (first | (with_reducible first | exact HB.out | apply below_alloc | apply pw_below_drewN | apply below_drew1) | exact HB.out)) hb); clear HB; have HB := n0_; clear n0_; (try clear hb); (try clear hb2); (try clear hk); (try clear hi)))
      repeat (go_quiet (first | (go_at_call 8; (with_reducible refine (zoneinfolaw12_awake.calls k  false _ A5.out).mono ?_); rintro e w10 ⟨rfl, hb⟩; have n0_ := Aside0.mk (below_step (by repeat (first | (with_reducible first | exact HB.out | apply below_alloc | apply pw_below_drewN | apply below_drew1) | exact HB.out)) hb); clear HB; have HB := n0_; clear n0_; (try clear hb); (try clear hb2); (try clear hk); (try clear hi))); try go_wp2_with (first | (go_at_call 8; (with_reducible refine (zoneinfolaw12_awake.calls k  false _ A5.out).mono ?_); rintro e w10 ⟨rfl, hb⟩; have n0_ := Aside0.mk (below_step (by repeat (first | (with_reducible first | exact HB.out | apply below_alloc | apply pw_below_drewN | apply below_drew1) | exact HB.out)) hb); clear HB; have HB := n0_; clear n0_; (try clear hb); (try clear hb2); (try clear hk); (try clear hi))))
      go_meet
      case rel => exact ⟨_, (true), (by first | rfl | (simp; done) | (simp [*]; done)), H', ⟨by first | omega | exact Nat.le_refl _⟩, ⟨by repeat (first | (with_reducible first | exact HB.out | apply below_alloc | apply pw_below_drewN | apply below_drew1) | exact HB.out)⟩⟩
  case rest =>
    clear HC4
    try clear c2
    try clear p2
    try clear c3
    try clear c6
    try clear c7
    try clear c7b0
    try clear c7b1
    obtain ⟨kq, x27_3, rfl, HA, HJ3, HB⟩ := hcut
    cases kq with
    | zero => exact absurd HA.out (by simp [zoneinfolaw12_DesigsMatchReference.j0])
    | succ kj3 =>
      have H := HA.out
      clear HA
      simp only [zoneinfolaw12_DesigsMatchReference.j0] at H
      by_cases c11 : x27_3 = true
      · subst c11
        have H1 : ((zoneinfolaw12_awake.f kj3).bind fun t187 => (some t187)) = some r := by rw [if_pos rfl] at H; exact H
        clear H
        have H := H1
        clear H1
        replace H := Option.bind_eq_some_iff.mp H
        obtain ⟨t187, A120, H⟩ := H
        replace H : (some t187) = some r := H
        have A12 := Aside0.mk A120
        clear A120
        obtain rfl := Option.some.inj H
        go_wp2_with (first | (go_at_call 8; (with_reducible refine (zoneinfolaw12_awake.calls kj3  t187 _ A12.out).mono ?_); rintro e w13 ⟨rfl, hb⟩; have n0_ := Aside0.mk (below_step (by repeat (first | (with_reducible first | exact HB.out | apply below_alloc | apply pw_below_drewN | apply below_drew1) | exact HB.out)) hb); clear HB; have HB := n0_; clear n0_; (try clear hb); (try clear hb2); (try clear hk); (try clear hi)))
        repeat (go_quiet (first | (go_at_call 8; (with_reducible refine (zoneinfolaw12_awake.calls kj3  t187 _ A12.out).mono ?_); rintro e w13 ⟨rfl, hb⟩; have n0_ := Aside0.mk (below_step (by repeat (first | (with_reducible first | exact HB.out | apply below_alloc | apply pw_below_drewN | apply below_drew1) | exact HB.out)) hb); clear HB; have HB := n0_; clear n0_; (try clear hb); (try clear hb2); (try clear hk); (try clear hi))); try go_wp2_with (first | (go_at_call 8; (with_reducible refine (zoneinfolaw12_awake.calls kj3  t187 _ A12.out).mono ?_); rintro e w13 ⟨rfl, hb⟩; have n0_ := Aside0.mk (below_step (by repeat (first | (with_reducible first | exact HB.out | apply below_alloc | apply pw_below_drewN | apply below_drew1) | exact HB.out)) hb); clear HB; have HB := n0_; clear n0_; (try clear hb); (try clear hb2); (try clear hk); (try clear hi))))
        go_ret
        exact ⟨by first | rfl | (simp [errW_none, errW_some] <;> rfl) | (simp [*, errW_none, errW_some] <;> rfl), by repeat (first | (with_reducible first | exact HB.out | apply below_alloc | apply pw_below_drewN | apply below_drew1) | exact HB.out)⟩
      · replace c11 := Bool.eq_false_iff.mpr c11
        subst c11
        have H1 : ((desigs_Valid.f kj3 l0).bind fun t188 => ((zoneinforef12_Valid.f kj3 l0).bind fun t189 => (if (t188 != t189) = true then (none) else ((desigs_Bad.f kj3 l0).bind fun t190 => ((zoneinforef12_Bad.f kj3 l0).bind fun t191 => (zoneinfolaw12_DesigsMatchReference.j1 kj3 l0 a1 l2 (t190 != t191))))))) = some r := by rw [if_neg (show ¬ (false = true) by decide)] at H; exact H
        clear H
        have H := H1
        clear H1
        have HC14 := Aside0.mk H
        clear H
        go_upto_region 3 with (fail)
        repeat (go_quiet (fail); go_upto_region 3 with (fail))
        go_cut [40] (fun v40 wc => ∃ (kq : Nat) (x40_13 : Bool), v40 = .bool x40_13 ∧ Aside0 (zoneinfolaw12_DesigsMatchReference.j1 kq l0 a1 l2 x40_13 = some r) ∧ Aside0 (kq ≤ kj3) ∧ Aside0 (Below w.heap.size w wc))
        case first =>
          have H := HC14.out
          clear HC14
          replace H := Option.bind_eq_some_iff.mp H
          obtain ⟨t188, A150, H⟩ := H
          replace H : ((zoneinforef12_Valid.f kj3 l0).bind fun t189 => (if (t188 != t189) = true then (none) else ((desigs_Bad.f kj3 l0).bind fun t190 => ((zoneinforef12_Bad.f kj3 l0).bind fun t191 => (zoneinfolaw12_DesigsMatchReference.j1 kj3 l0 a1 l2 (t190 != t191)))))) = some r := H
          have A15 := Aside0.mk A150
          clear A150
          replace H := Option.bind_eq_some_iff.mp H
          obtain ⟨t189, A160, H⟩ := H
          replace H : (if (t188 != t189) = true then (none) else ((desigs_Bad.f kj3 l0).bind fun t190 => ((zoneinforef12_Bad.f kj3 l0).bind fun t191 => (zoneinfolaw12_DesigsMatchReference.j1 kj3 l0 a1 l2 (t190 != t191))))) = some r := H
          have A16 := Aside0.mk A160
          clear A160
          by_cases c17 : (t188 != t189) = true
          · rw [if_pos c17] at H
            exact absurd H (by simp)
          · rw [if_neg c17] at H
            have c17b0 : (t188 != t189) = false := by simpa using c17
            (try (have c17b1 : decide (t188 = t189) = true := by simpa using c17))
            (try (have c17b2 : (t188 == t189) = true := by simpa using c17))
            clear c17
            (first | rw [c17b0] | (simp only [i64_w, i32_w]; rw [c17b0]) | skip)
            replace H := Option.bind_eq_some_iff.mp H
            obtain ⟨t190, A180, H⟩ := H
            replace H : ((zoneinforef12_Bad.f kj3 l0).bind fun t191 => (zoneinfolaw12_DesigsMatchReference.j1 kj3 l0 a1 l2 (t190 != t191))) = some r := H
            have A18 := Aside0.mk A180
            clear A180
            replace H := Option.bind_eq_some_iff.mp H
            obtain ⟨t191, A190, H⟩ := H
            replace H : (zoneinfolaw12_DesigsMatchReference.j1 kj3 l0 a1 l2 (t190 != t191)) = some r := H
            have A19 := Aside0.mk A190
            clear A190
            have H' := Aside0.mk H
            clear H
            go_wp2_with (first | (go_at_call 9; (with_reducible refine (desigs_Valid.calls kj3 _ _ l0 t188 _ ?side1 ?side2 A15.out).mono ?_); (case side1 => repeat (first | exact (Kd.C_below HR0.out HB.out) | (with_reducible refine Kd.C_alloc ?_ _) | (with_reducible refine Kd.C_drewN ?_ _) | (with_reducible refine Kd.C_drew ?_))); (case side2 => exact HC0.out); rintro e w' ⟨rfl, ⟨nd, rfl⟩⟩; (try first | exact ⟨rfl, _, World.drewN_drewN _ _ _⟩ | exact ⟨rfl, _, Eq.trans (World.drewN_drewN _ _ _) (congrArg (World.drewN _) (Nat.add_assoc _ _ _))⟩)) | (go_at_call 10; (with_reducible refine (zoneinforef12_Valid.calls kj3 _ _ l0 t189 _ ?side1 ?side2 A16.out).mono ?_); (case side1 => repeat (first | exact (Kd.C_below HR0.out (by repeat (first | (with_reducible first | exact HB.out | apply below_alloc | apply pw_below_drewN | apply below_drew1) | exact HB.out))) | (with_reducible refine Kd.C_alloc ?_ _) | (with_reducible refine Kd.C_drewN ?_ _) | (with_reducible refine Kd.C_drew ?_))); (case side2 => exact HC0.out); rintro e w' ⟨rfl, ⟨nd, rfl⟩⟩; (try first | exact ⟨rfl, _, World.drewN_drewN _ _ _⟩ | exact ⟨rfl, _, Eq.trans (World.drewN_drewN _ _ _) (congrArg (World.drewN _) (Nat.add_assoc _ _ _))⟩)) | (go_at_call 11; (with_reducible refine (desigs_Bad.calls kj3 _ _ l0 t190 _ ?side1 ?side2 A18.out).mono ?_); (case side1 => repeat (first | exact (Kd.C_below HR0.out (by repeat (first | (with_reducible first | exact HB.out | apply below_alloc | apply pw_below_drewN | apply below_drew1) | exact HB.out))) | (with_reducible refine Kd.C_alloc ?_ _) | (with_reducible refine Kd.C_drewN ?_ _) | (with_reducible refine Kd.C_drew ?_))); (case side2 => exact HC0.out); rintro e w' ⟨rfl, ⟨nd, rfl⟩⟩; (try first | exact ⟨rfl, _, World.drewN_drewN _ _ _⟩ | exact ⟨rfl, _, Eq.trans (World.drewN_drewN _ _ _) (congrArg (World.drewN _) (Nat.add_assoc _ _ _))⟩)) | (go_at_call 12; (with_reducible refine (zoneinforef12_Bad.calls kj3 _ _ l0 t191 _ ?side1 ?side2 A19.out).mono ?_); (case side1 => repeat (first | exact (Kd.C_below HR0.out (by repeat (first | (with_reducible first | exact HB.out | apply below_alloc | apply pw_below_drewN | apply below_drew1) | exact HB.out))) | (with_reducible refine Kd.C_alloc ?_ _) | (with_reducible refine Kd.C_drewN ?_ _) | (with_reducible refine Kd.C_drew ?_))); (case side2 => exact HC0.out); rintro e w' ⟨rfl, ⟨nd, rfl⟩⟩; (try first | exact ⟨rfl, _, World.drewN_drewN _ _ _⟩ | exact ⟨rfl, _, Eq.trans (World.drewN_drewN _ _ _) (congrArg (World.drewN _) (Nat.add_assoc _ _ _))⟩)))
            repeat (go_quiet (first | (go_at_call 9; (with_reducible refine (desigs_Valid.calls kj3 _ _ l0 t188 _ ?side1 ?side2 A15.out).mono ?_); (case side1 => repeat (first | exact (Kd.C_below HR0.out HB.out) | (with_reducible refine Kd.C_alloc ?_ _) | (with_reducible refine Kd.C_drewN ?_ _) | (with_reducible refine Kd.C_drew ?_))); (case side2 => exact HC0.out); rintro e w' ⟨rfl, ⟨nd, rfl⟩⟩; (try first | exact ⟨rfl, _, World.drewN_drewN _ _ _⟩ | exact ⟨rfl, _, Eq.trans (World.drewN_drewN _ _ _) (congrArg (World.drewN _) (Nat.add_assoc _ _ _))⟩)) | (go_at_call 10; (with_reducible refine (zoneinforef12_Valid.calls kj3 _ _ l0 t189 _ ?side1 ?side2 A16.out).mono ?_); (case side1 => repeat (first | exact (Kd.C_below HR0.out (by repeat (first | (with_reducible first | exact HB.out | apply below_alloc | apply pw_below_drewN | apply below_drew1) | exact HB.out))) | (with_reducible refine Kd.C_alloc ?_ _) | (with_reducible refine Kd.C_drewN ?_ _) | (with_reducible refine Kd.C_drew ?_))); (case side2 => exact HC0.out); rintro e w' ⟨rfl, ⟨nd, rfl⟩⟩; (try first | exact ⟨rfl, _, World.drewN_drewN _ _ _⟩ | exact ⟨rfl, _, Eq.trans (World.drewN_drewN _ _ _) (congrArg (World.drewN _) (Nat.add_assoc _ _ _))⟩)) | (go_at_call 11; (with_reducible refine (desigs_Bad.calls kj3 _ _ l0 t190 _ ?side1 ?side2 A18.out).mono ?_); (case side1 => repeat (first | exact (Kd.C_below HR0.out (by repeat (first | (with_reducible first | exact HB.out | apply below_alloc | apply pw_below_drewN | apply below_drew1) | exact HB.out))) | (with_reducible refine Kd.C_alloc ?_ _) | (with_reducible refine Kd.C_drewN ?_ _) | (with_reducible refine Kd.C_drew ?_))); (case side2 => exact HC0.out); rintro e w' ⟨rfl, ⟨nd, rfl⟩⟩; (try first | exact ⟨rfl, _, World.drewN_drewN _ _ _⟩ | exact ⟨rfl, _, Eq.trans (World.drewN_drewN _ _ _) (congrArg (World.drewN _) (Nat.add_assoc _ _ _))⟩)) | (go_at_call 12; (with_reducible refine (zoneinforef12_Bad.calls kj3 _ _ l0 t191 _ ?side1 ?side2 A19.out).mono ?_); (case side1 => repeat (first | exact (Kd.C_below HR0.out (by repeat (first | (with_reducible first | exact HB.out | apply below_alloc | apply pw_below_drewN | apply below_drew1) | exact HB.out))) | (with_reducible refine Kd.C_alloc ?_ _) | (with_reducible refine Kd.C_drewN ?_ _) | (with_reducible refine Kd.C_drew ?_))); (case side2 => exact HC0.out); rintro e w' ⟨rfl, ⟨nd, rfl⟩⟩; (try first | exact ⟨rfl, _, World.drewN_drewN _ _ _⟩ | exact ⟨rfl, _, Eq.trans (World.drewN_drewN _ _ _) (congrArg (World.drewN _) (Nat.add_assoc _ _ _))⟩))); try go_wp2_with (first | (go_at_call 9; (with_reducible refine (desigs_Valid.calls kj3 _ _ l0 t188 _ ?side1 ?side2 A15.out).mono ?_); (case side1 => repeat (first | exact (Kd.C_below HR0.out HB.out) | (with_reducible refine Kd.C_alloc ?_ _) | (with_reducible refine Kd.C_drewN ?_ _) | (with_reducible refine Kd.C_drew ?_))); (case side2 => exact HC0.out); rintro e w' ⟨rfl, ⟨nd, rfl⟩⟩; (try first | exact ⟨rfl, _, World.drewN_drewN _ _ _⟩ | exact ⟨rfl, _, Eq.trans (World.drewN_drewN _ _ _) (congrArg (World.drewN _) (Nat.add_assoc _ _ _))⟩)) | (go_at_call 10; (with_reducible refine (zoneinforef12_Valid.calls kj3 _ _ l0 t189 _ ?side1 ?side2 A16.out).mono ?_); (case side1 => repeat (first | exact (Kd.C_below HR0.out (by repeat (first | (with_reducible first | exact HB.out | apply below_alloc | apply pw_below_drewN | apply below_drew1) | exact HB.out))) | (with_reducible refine Kd.C_alloc ?_ _) | (with_reducible refine Kd.C_drewN ?_ _) | (with_reducible refine Kd.C_drew ?_))); (case side2 => exact HC0.out); rintro e w' ⟨rfl, ⟨nd, rfl⟩⟩; (try first | exact ⟨rfl, _, World.drewN_drewN _ _ _⟩ | exact ⟨rfl, _, Eq.trans (World.drewN_drewN _ _ _) (congrArg (World.drewN _) (Nat.add_assoc _ _ _))⟩)) | (go_at_call 11; (with_reducible refine (desigs_Bad.calls kj3 _ _ l0 t190 _ ?side1 ?side2 A18.out).mono ?_); (case side1 => repeat (first | exact (Kd.C_below HR0.out (by repeat (first | (with_reducible first | exact HB.out | apply below_alloc | apply pw_below_drewN | apply below_drew1) | exact HB.out))) | (with_reducible refine Kd.C_alloc ?_ _) | (with_reducible refine Kd.C_drewN ?_ _) | (with_reducible refine Kd.C_drew ?_))); (case side2 => exact HC0.out); rintro e w' ⟨rfl, ⟨nd, rfl⟩⟩; (try first | exact ⟨rfl, _, World.drewN_drewN _ _ _⟩ | exact ⟨rfl, _, Eq.trans (World.drewN_drewN _ _ _) (congrArg (World.drewN _) (Nat.add_assoc _ _ _))⟩)) | (go_at_call 12; (with_reducible refine (zoneinforef12_Bad.calls kj3 _ _ l0 t191 _ ?side1 ?side2 A19.out).mono ?_); (case side1 => repeat (first | exact (Kd.C_below HR0.out (by repeat (first | (with_reducible first | exact HB.out | apply below_alloc | apply pw_below_drewN | apply below_drew1) | exact HB.out))) | (with_reducible refine Kd.C_alloc ?_ _) | (with_reducible refine Kd.C_drewN ?_ _) | (with_reducible refine Kd.C_drew ?_))); (case side2 => exact HC0.out); rintro e w' ⟨rfl, ⟨nd, rfl⟩⟩; (try first | exact ⟨rfl, _, World.drewN_drewN _ _ _⟩ | exact ⟨rfl, _, Eq.trans (World.drewN_drewN _ _ _) (congrArg (World.drewN _) (Nat.add_assoc _ _ _))⟩))))
            go_meet
            case rel => exact ⟨_, ((t190 != t191)), (by first | rfl | (simp; done) | (simp [*]; done)), H', ⟨by have := HJ3.out; first | omega | exact Nat.le_refl _⟩, ⟨by repeat (first | (with_reducible first | exact HB.out | apply below_alloc | apply pw_below_drewN | apply below_drew1) | exact HB.out)⟩⟩
        case rest =>
          clear HC14
          try clear c1
          try clear c2
          try clear p2
          try clear c3
          try clear c6
          try clear c7
          try clear c7b0
          try clear c7b1
          try clear c11
          try clear c17
          try clear c17b0
          try clear c17b1
          try clear c17b2
          try clear p2
          obtain ⟨kq, x40_13, rfl, HA, HJ13, HB⟩ := hcut
          cases kq with
          | zero => exact absurd HA.out (by simp [zoneinfolaw12_DesigsMatchReference.j1])
          | succ kj13 =>
            have H := HA.out
            clear HA
            simp only [zoneinfolaw12_DesigsMatchReference.j1] at H
            by_cases c20 : x40_13 = true
            · subst c20
              have H1 : (none) = some r := by rw [if_pos rfl] at H; exact H
              clear H
              have H := H1
              clear H1
              exact absurd H (by simp)
            · replace c20 := Bool.eq_false_iff.mpr c20
              subst c20
              have H1 : ((zoneinforef12_Valid.f kj13 l0).bind fun t192 => (if t192 = true then ((desigs_Name.f l0 a1).bind fun bt193 => ((zoneinforef12_Name.f kj13 l0 a1).bind fun bt195 => (if bt193.1.toList = bt195.1.toList then (if (bt193.2 != bt195.2) = true then (none) else (zoneinfolaw12_DesigsMatchReference.j2 kj13 l2)) else (none)))) else (zoneinfolaw12_DesigsMatchReference.j2 kj13 l2))) = some r := by rw [if_neg (show ¬ (false = true) by decide)] at H; exact H
              clear H
              have H := H1
              clear H1
              replace H := Option.bind_eq_some_iff.mp H
              obtain ⟨t192, A210, H⟩ := H
              replace H : (if t192 = true then ((desigs_Name.f l0 a1).bind fun bt193 => ((zoneinforef12_Name.f kj13 l0 a1).bind fun bt195 => (if bt193.1.toList = bt195.1.toList then (if (bt193.2 != bt195.2) = true then (none) else (zoneinfolaw12_DesigsMatchReference.j2 kj13 l2)) else (none)))) else (zoneinfolaw12_DesigsMatchReference.j2 kj13 l2)) = some r := H
              have A21 := Aside0.mk A210
              clear A210
              have HC22 := Aside0.mk H
              clear H
              go_upto_if 42 with (first | (go_at_call 10; (with_reducible refine (zoneinforef12_Valid.calls kj13 _ _ l0 t192 _ ?side1 ?side2 A21.out).mono ?_); (case side1 => repeat (first | exact (Kd.C_below HR0.out HB.out) | (with_reducible refine Kd.C_alloc ?_ _) | (with_reducible refine Kd.C_drewN ?_ _) | (with_reducible refine Kd.C_drew ?_))); (case side2 => exact HC0.out); rintro e w' ⟨rfl, ⟨nd, rfl⟩⟩; (try first | exact ⟨rfl, _, World.drewN_drewN _ _ _⟩ | exact ⟨rfl, _, Eq.trans (World.drewN_drewN _ _ _) (congrArg (World.drewN _) (Nat.add_assoc _ _ _))⟩)))
              repeat (go_quiet (first | (go_at_call 10; (with_reducible refine (zoneinforef12_Valid.calls kj13 _ _ l0 t192 _ ?side1 ?side2 A21.out).mono ?_); (case side1 => repeat (first | exact (Kd.C_below HR0.out HB.out) | (with_reducible refine Kd.C_alloc ?_ _) | (with_reducible refine Kd.C_drewN ?_ _) | (with_reducible refine Kd.C_drew ?_))); (case side2 => exact HC0.out); rintro e w' ⟨rfl, ⟨nd, rfl⟩⟩; (try first | exact ⟨rfl, _, World.drewN_drewN _ _ _⟩ | exact ⟨rfl, _, Eq.trans (World.drewN_drewN _ _ _) (congrArg (World.drewN _) (Nat.add_assoc _ _ _))⟩))); go_upto_if 42 with (first | (go_at_call 10; (with_reducible refine (zoneinforef12_Valid.calls kj13 _ _ l0 t192 _ ?side1 ?side2 A21.out).mono ?_); (case side1 => repeat (first | exact (Kd.C_below HR0.out HB.out) | (with_reducible refine Kd.C_alloc ?_ _) | (with_reducible refine Kd.C_drewN ?_ _) | (with_reducible refine Kd.C_drew ?_))); (case side2 => exact HC0.out); rintro e w' ⟨rfl, ⟨nd, rfl⟩⟩; (try first | exact ⟨rfl, _, World.drewN_drewN _ _ _⟩ | exact ⟨rfl, _, Eq.trans (World.drewN_drewN _ _ _) (congrArg (World.drewN _) (Nat.add_assoc _ _ _))⟩))))
              (try simp only [Act.put, List.setIfInBounds_toArray, List.set_cons_zero, List.set_cons_succ])
              go_cut [] (fun wc => ∃ (kq : Nat), Aside0 (zoneinfolaw12_DesigsMatchReference.j2 kq l2 = some r) ∧ Aside0 (kq ≤ kj13) ∧ Aside0 (Below w.heap.size w wc))
              case first =>
                have H := HC22.out
                clear HC22
                by_cases c23 : t192 = true
                · subst c23
                  have H1 : ((desigs_Name.f l0 a1).bind fun bt193 => ((zoneinforef12_Name.f kj13 l0 a1).bind fun bt195 => (if bt193.1.toList = bt195.1.toList then (if (bt193.2 != bt195.2) = true then (none) else (zoneinfolaw12_DesigsMatchReference.j2 kj13 l2)) else (none)))) = some r := by rw [if_pos rfl] at H; exact H
                  clear H
                  have H := H1
                  clear H1
                  replace H := Option.bind_eq_some_iff.mp H
                  obtain ⟨⟨t193, t194⟩, A240, H⟩ := H
                  replace H : ((zoneinforef12_Name.f kj13 l0 a1).bind fun bt195 => (if t193.toList = bt195.1.toList then (if (t194 != bt195.2) = true then (none) else (zoneinfolaw12_DesigsMatchReference.j2 kj13 l2)) else (none))) = some r := H
                  have A24 := Aside0.mk A240
                  clear A240
                  replace H := Option.bind_eq_some_iff.mp H
                  obtain ⟨⟨t195, t196⟩, A250, H⟩ := H
                  replace H : (if t193.toList = t195.toList then (if (t194 != t196) = true then (none) else (zoneinfolaw12_DesigsMatchReference.j2 kj13 l2)) else (none)) = some r := H
                  have A25 := Aside0.mk A250
                  clear A250
                  by_cases c26 : t193.toList = t195.toList
                  · rw [if_pos c26] at H
                    have c26b0 : (t193.toList == t195.toList) = true := beq_iff_eq.mpr c26
                    have c26b1 : (t193.toList != t195.toList) = false := bne_eq_false_iff_eq.mpr c26
                    clear c26
                    (first | rw [c26b0] | (simp only [i64_w, i32_w]; rw [c26b0]) | skip)
                    by_cases c27 : (t194 != t196) = true
                    · rw [if_pos c27] at H
                      exact absurd H (by simp)
                    · rw [if_neg c27] at H
                      have c27b0 : (t194 != t196) = false := by simpa using c27
                      (try (have c27b1 : decide (t194 = t196) = true := by simpa using c27))
                      (try (have c27b2 : (t194 == t196) = true := by simpa using c27))
                      clear c27
                      have H' := Aside0.mk H
                      clear H
                      go_wp2_with (first | (go_at_call 13; (with_reducible refine (desigs_Name.calls _ _ l0 a1 t193 t194 _ ?side1 ?side2 A24.out).mono ?_); (case side1 => repeat (first | exact (Kd.C_below HR0.out HB.out) | (with_reducible refine Kd.C_alloc ?_ _) | (with_reducible refine Kd.C_drewN ?_ _) | (with_reducible refine Kd.C_drew ?_))); (case side2 => exact HC0.out); rintro e w28 ⟨rfl, hb⟩; have n0_ := Aside0.mk (below_step (by repeat (first | (with_reducible first | exact HB.out | apply below_alloc | apply pw_below_drewN | apply below_drew1) | exact HB.out)) hb); clear HB; have HB := n0_; clear n0_; (try clear hb); (try clear hb2); (try clear hk); (try clear hi)) | (go_at_call 14; (with_reducible refine (zoneinforef12_Name.calls kj13 _ _ l0 a1 t195 t196 _ ?side1 ?side2 A25.out).mono ?_); (case side1 => repeat (first | exact (Kd.C_below HR0.out HB.out) | (with_reducible refine Kd.C_alloc ?_ _) | (with_reducible refine Kd.C_drewN ?_ _) | (with_reducible refine Kd.C_drew ?_))); (case side2 => exact HC0.out); rintro e w29 ⟨rfl, hb⟩; have n0_ := Aside0.mk (below_step (by repeat (first | (with_reducible first | exact HB.out | apply below_alloc | apply pw_below_drewN | apply below_drew1) | exact HB.out)) hb); clear HB; have HB := n0_; clear n0_; (try clear hb); (try clear hb2); (try clear hk); (try clear hi)))
                      repeat (go_quiet (first | (go_at_call 13; (with_reducible refine (desigs_Name.calls _ _ l0 a1 t193 t194 _ ?side1 ?side2 A24.out).mono ?_); (case side1 => repeat (first | exact (Kd.C_below HR0.out HB.out) | (with_reducible refine Kd.C_alloc ?_ _) | (with_reducible refine Kd.C_drewN ?_ _) | (with_reducible refine Kd.C_drew ?_))); (case side2 => exact HC0.out); rintro e w28 ⟨rfl, hb⟩; have n0_ := Aside0.mk (below_step (by repeat (first | (with_reducible first | exact HB.out | apply below_alloc | apply pw_below_drewN | apply below_drew1) | exact HB.out)) hb); clear HB; have HB := n0_; clear n0_; (try clear hb); (try clear hb2); (try clear hk); (try clear hi)) | (go_at_call 14; (with_reducible refine (zoneinforef12_Name.calls kj13 _ _ l0 a1 t195 t196 _ ?side1 ?side2 A25.out).mono ?_); (case side1 => repeat (first | exact (Kd.C_below HR0.out HB.out) | (with_reducible refine Kd.C_alloc ?_ _) | (with_reducible refine Kd.C_drewN ?_ _) | (with_reducible refine Kd.C_drew ?_))); (case side2 => exact HC0.out); rintro e w29 ⟨rfl, hb⟩; have n0_ := Aside0.mk (below_step (by repeat (first | (with_reducible first | exact HB.out | apply below_alloc | apply pw_below_drewN | apply below_drew1) | exact HB.out)) hb); clear HB; have HB := n0_; clear n0_; (try clear hb); (try clear hb2); (try clear hk); (try clear hi))); try go_wp2_with (first | (go_at_call 13; (with_reducible refine (desigs_Name.calls _ _ l0 a1 t193 t194 _ ?side1 ?side2 A24.out).mono ?_); (case side1 => repeat (first | exact (Kd.C_below HR0.out HB.out) | (with_reducible refine Kd.C_alloc ?_ _) | (with_reducible refine Kd.C_drewN ?_ _) | (with_reducible refine Kd.C_drew ?_))); (case side2 => exact HC0.out); rintro e w28 ⟨rfl, hb⟩; have n0_ := Aside0.mk (below_step (by repeat (first | (with_reducible first | exact HB.out | apply below_alloc | apply pw_below_drewN | apply below_drew1) | exact HB.out)) hb); clear HB; have HB := n0_; clear n0_; (try clear hb); (try clear hb2); (try clear hk); (try clear hi)) | (go_at_call 14; (with_reducible refine (zoneinforef12_Name.calls kj13 _ _ l0 a1 t195 t196 _ ?side1 ?side2 A25.out).mono ?_); (case side1 => repeat (first | exact (Kd.C_below HR0.out HB.out) | (with_reducible refine Kd.C_alloc ?_ _) | (with_reducible refine Kd.C_drewN ?_ _) | (with_reducible refine Kd.C_drew ?_))); (case side2 => exact HC0.out); rintro e w29 ⟨rfl, hb⟩; have n0_ := Aside0.mk (below_step (by repeat (first | (with_reducible first | exact HB.out | apply below_alloc | apply pw_below_drewN | apply below_drew1) | exact HB.out)) hb); clear HB; have HB := n0_; clear n0_; (try clear hb); (try clear hb2); (try clear hk); (try clear hi))))
                      go_meet
                      case rel => exact ⟨_, H', ⟨by have := HJ3.out; have := HJ13.out; first | omega | exact Nat.le_refl _⟩, ⟨by repeat (first | (with_reducible first | exact HB.out | apply below_alloc | apply pw_below_drewN | apply below_drew1) | exact HB.out)⟩⟩
                  · rw [if_neg c26] at H
                    exact absurd H (by simp)
                · replace c23 := Bool.eq_false_iff.mpr c23
                  subst c23
                  have H1 : (zoneinfolaw12_DesigsMatchReference.j2 kj13 l2) = some r := by rw [if_neg (show ¬ (false = true) by decide)] at H; exact H
                  clear H
                  have H := H1
                  clear H1
                  have H' := Aside0.mk H
                  clear H
                  go_wp2
                  repeat (go_quiet (fail); try go_wp2)
                  go_meet
                  case rel => exact ⟨_, H', ⟨by have := HJ3.out; have := HJ13.out; first | omega | exact Nat.le_refl _⟩, ⟨by repeat (first | (with_reducible first | exact HB.out | apply below_alloc | apply pw_below_drewN | apply below_drew1) | exact HB.out)⟩⟩
              case rest =>
                clear HC22
                try clear c1
                try clear c2
                try clear p2
                try clear c3
                try clear c6
                try clear c7
                try clear c7b0
                try clear c7b1
                try clear c11
                try clear c17
                try clear c17b0
                try clear c17b1
                try clear c17b2
                try clear c20
                try clear c23
                try clear c26
                try clear c26b0
                try clear c26b1
                try clear c27
                try clear c27b0
                try clear c27b1
                try clear c27b2
                try clear p2
                obtain ⟨kq, HA, HJ21, HB⟩ := hcut
                cases kq with
                | zero => exact absurd HA.out (by simp [zoneinfolaw12_DesigsMatchReference.j2])
                | succ kj21 =>
                  have H := HA.out
                  clear HA
                  simp only [zoneinfolaw12_DesigsMatchReference.j2] at H
                  replace H := Option.bind_eq_some_iff.mp H
                  obtain ⟨t197, A300, H⟩ := H
                  replace H : (if t197 = true then ((desigs_Build.f l2).bind fun bt198 => ((zoneinforef12_Build.f kj21 l2).bind fun bt204 => ((zoneinforef01_Same.f kj21 bt198.1 bt204.1).bind fun t210 => (if t210 = true then (zoneinfolaw12_DesigsMatchReference.j3 kj21 bt198.2 bt204.2 ((bt198.2.length : Int) != (bt204.2.length : Int))) else (none))))) else (some true)) = some r := H
                  have A30 := Aside0.mk A300
                  clear A300
                  by_cases c31 : t197 = true
                  · subst c31
                    have H1 : ((desigs_Build.f l2).bind fun bt198 => ((zoneinforef12_Build.f kj21 l2).bind fun bt204 => ((zoneinforef01_Same.f kj21 bt198.1 bt204.1).bind fun t210 => (if t210 = true then (zoneinfolaw12_DesigsMatchReference.j3 kj21 bt198.2 bt204.2 ((bt198.2.length : Int) != (bt204.2.length : Int))) else (none))))) = some r := by rw [if_pos rfl] at H; exact H
                    clear H
                    have H := H1
                    clear H1
                    replace H := Option.bind_eq_some_iff.mp H
                    obtain ⟨⟨t198, t199⟩, A320, H⟩ := H
                    replace H : ((zoneinforef12_Build.f kj21 l2).bind fun bt204 => ((zoneinforef01_Same.f kj21 t198 bt204.1).bind fun t210 => (if t210 = true then (zoneinfolaw12_DesigsMatchReference.j3 kj21 t199 bt204.2 ((t199.length : Int) != (bt204.2.length : Int))) else (none)))) = some r := H
                    have A32 := Aside0.mk A320
                    clear A320
                    replace H := Option.bind_eq_some_iff.mp H
                    obtain ⟨⟨t204, t205⟩, A330, H⟩ := H
                    replace H : ((zoneinforef01_Same.f kj21 t198 t204).bind fun t210 => (if t210 = true then (zoneinfolaw12_DesigsMatchReference.j3 kj21 t199 t205 ((t199.length : Int) != (t205.length : Int))) else (none))) = some r := H
                    have A33 := Aside0.mk A330
                    clear A330
                    have HC34 := Aside0.mk H
                    clear H
                    go_upto_region 14 with (first | (go_at_call 15; (with_reducible refine (zoneinforef12_Plain.calls kj21 _ _ l2 true _ ?side1 ?side2 A30.out).mono ?_); (case side1 => repeat (first | exact (Kd.C_below HR2.out HB.out) | (with_reducible refine Kd.C_alloc ?_ _) | (with_reducible refine Kd.C_drewN ?_ _) | (with_reducible refine Kd.C_drew ?_))); (case side2 => exact HC2.out); rintro e w' ⟨rfl, ⟨nd, rfl⟩⟩; (try first | exact ⟨rfl, _, World.drewN_drewN _ _ _⟩ | exact ⟨rfl, _, Eq.trans (World.drewN_drewN _ _ _) (congrArg (World.drewN _) (Nat.add_assoc _ _ _))⟩)) | (go_at_call 16; (with_reducible refine (desigs_Build.calls _ _ l2 t198 t199 _ ?side1 ?side2 A32.out).mono ?_); (case side1 => repeat (first | exact (Kd.C_below HR2.out (by repeat (first | (with_reducible first | exact HB.out | apply below_alloc | apply pw_below_drewN | apply below_drew1) | exact HB.out))) | (with_reducible refine Kd.C_alloc ?_ _) | (with_reducible refine Kd.C_drewN ?_ _) | (with_reducible refine Kd.C_drew ?_))); (case side2 => exact HC2.out); rintro e w35 ⟨v200, v202, rfl, ho0, ho1, hb⟩; have n0_ := Aside0.mk (Kd.R_lower ho0 (below_size (by repeat (first | (with_reducible first | exact HB.out | apply below_alloc | apply pw_below_drewN | apply below_drew1) | exact HB.out)))); have n1_ := Aside0.mk (Kd.R_lower ho1 (below_size (by repeat (first | (with_reducible first | exact HB.out | apply below_alloc | apply pw_below_drewN | apply below_drew1) | exact HB.out)))); have n2_ := Aside0.mk (below_step (by repeat (first | (with_reducible first | exact HB.out | apply below_alloc | apply pw_below_drewN | apply below_drew1) | exact HB.out)) hb); clear HB; have HO201 := n0_; have HO203 := n1_; have HB := n2_; clear n0_ n1_ n2_; (try clear hb); (try clear hb2); (try clear hk); (try clear hi); (try clear ho0); (try clear ho1)) | (go_at_call 17; (with_reducible refine (zoneinforef12_Build.calls kj21 _ _ l2 t204 t205 _ ?side1 ?side2 A33.out).mono ?_); (case side1 => repeat (first | exact (Kd.C_below HR2.out HB.out) | (with_reducible refine Kd.C_alloc ?_ _) | (with_reducible refine Kd.C_drewN ?_ _) | (with_reducible refine Kd.C_drew ?_))); (case side2 => exact HC2.out); rintro e w36 ⟨v206, v208, rfl, ho0, ho1, hb⟩; have n0_ := Aside0.mk (Kd.R_elder' (by (with_reducible repeat (first | apply Kd.R_alloc | apply Kd.R_drewN | apply Kd.R_drew)); exact HO201.out) (Kd.R_base ho0) hb); have n1_ := Aside0.mk (Kd.R_elder' (by (with_reducible repeat (first | apply Kd.R_alloc | apply Kd.R_drewN | apply Kd.R_drew)); exact HO203.out) (Kd.R_base ho1) hb); have n2_ := Aside0.mk (Kd.R_lower (Kd.R_new' ho0 (Kd.R_lt (by (with_reducible repeat (first | apply Kd.R_alloc | apply Kd.R_drewN | apply Kd.R_drew)); exact HO201.out))) (below_size (by repeat (first | (with_reducible first | exact HB.out | apply below_alloc | apply pw_below_drewN | apply below_drew1) | exact HB.out)))); have n3_ := Aside0.mk (Kd.R_lower (Kd.R_new' ho1 (Kd.R_lt (by (with_reducible repeat (first | apply Kd.R_alloc | apply Kd.R_drewN | apply Kd.R_drew)); exact HO203.out))) (below_size (by repeat (first | (with_reducible first | exact HB.out | apply below_alloc | apply pw_below_drewN | apply below_drew1) | exact HB.out)))); have n4_ := Aside0.mk (below_step (by repeat (first | (with_reducible first | exact HB.out | apply below_alloc | apply pw_below_drewN | apply below_drew1) | exact HB.out)) hb); clear HO201; clear HO203; clear HB; have HO201 := n0_; have HO203 := n1_; have HO207 := n2_; have HO209 := n3_; have HB := n4_; clear n0_ n1_ n2_ n3_ n4_; (try clear hb); (try clear hb2); (try clear hk); (try clear hi); (try clear ho0); (try clear ho1)))
                    repeat (go_quiet (first | (go_at_call 15; (with_reducible refine (zoneinforef12_Plain.calls kj21 _ _ l2 true _ ?side1 ?side2 A30.out).mono ?_); (case side1 => repeat (first | exact (Kd.C_below HR2.out HB.out) | (with_reducible refine Kd.C_alloc ?_ _) | (with_reducible refine Kd.C_drewN ?_ _) | (with_reducible refine Kd.C_drew ?_))); (case side2 => exact HC2.out); rintro e w' ⟨rfl, ⟨nd, rfl⟩⟩; (try first | exact ⟨rfl, _, World.drewN_drewN _ _ _⟩ | exact ⟨rfl, _, Eq.trans (World.drewN_drewN _ _ _) (congrArg (World.drewN _) (Nat.add_assoc _ _ _))⟩)) | (go_at_call 16; (with_reducible refine (desigs_Build.calls _ _ l2 t198 t199 _ ?side1 ?side2 A32.out).mono ?_); (case side1 => repeat (first | exact (Kd.C_below HR2.out (by repeat (first | (with_reducible first | exact HB.out | apply below_alloc | apply pw_below_drewN | apply below_drew1) | exact HB.out))) | (with_reducible refine Kd.C_alloc ?_ _) | (with_reducible refine Kd.C_drewN ?_ _) | (with_reducible refine Kd.C_drew ?_))); (case side2 => exact HC2.out); rintro e w35 ⟨v200, v202, rfl, ho0, ho1, hb⟩; have n0_ := Aside0.mk (Kd.R_lower ho0 (below_size (by repeat (first | (with_reducible first | exact HB.out | apply below_alloc | apply pw_below_drewN | apply below_drew1) | exact HB.out)))); have n1_ := Aside0.mk (Kd.R_lower ho1 (below_size (by repeat (first | (with_reducible first | exact HB.out | apply below_alloc | apply pw_below_drewN | apply below_drew1) | exact HB.out)))); have n2_ := Aside0.mk (below_step (by repeat (first | (with_reducible first | exact HB.out | apply below_alloc | apply pw_below_drewN | apply below_drew1) | exact HB.out)) hb); clear HB; have HO201 := n0_; have HO203 := n1_; have HB := n2_; clear n0_ n1_ n2_; (try clear hb); (try clear hb2); (try clear hk); (try clear hi); (try clear ho0); (try clear ho1)) | (go_at_call 17; (with_reducible refine (zoneinforef12_Build.calls kj21 _ _ l2 t204 t205 _ ?side1 ?side2 A33.out).mono ?_); (case side1 => repeat (first | exact (Kd.C_below HR2.out HB.out) | (with_reducible refine Kd.C_alloc ?_ _) | (with_reducible refine Kd.C_drewN ?_ _) | (with_reducible refine Kd.C_drew ?_))); (case side2 => exact HC2.out); rintro e w36 ⟨v206, v208, rfl, ho0, ho1, hb⟩; have n0_ := Aside0.mk (Kd.R_elder' (by (with_reducible repeat (first | apply Kd.R_alloc | apply Kd.R_drewN | apply Kd.R_drew)); exact HO201.out) (Kd.R_base ho0) hb); have n1_ := Aside0.mk (Kd.R_elder' (by (with_reducible repeat (first | apply Kd.R_alloc | apply Kd.R_drewN | apply Kd.R_drew)); exact HO203.out) (Kd.R_base ho1) hb); have n2_ := Aside0.mk (Kd.R_lower (Kd.R_new' ho0 (Kd.R_lt (by (with_reducible repeat (first | apply Kd.R_alloc | apply Kd.R_drewN | apply Kd.R_drew)); exact HO201.out))) (below_size (by repeat (first | (with_reducible first | exact HB.out | apply below_alloc | apply pw_below_drewN | apply below_drew1) | exact HB.out)))); have n3_ := Aside0.mk (Kd.R_lower (Kd.R_new' ho1 (Kd.R_lt (by (with_reducible repeat (first | apply Kd.R_alloc | apply Kd.R_drewN | apply Kd.R_drew)); exact HO203.out))) (below_size (by repeat (first | (with_reducible first | exact HB.out | apply below_alloc | apply pw_below_drewN | apply below_drew1) | exact HB.out)))); have n4_ := Aside0.mk (below_step (by repeat (first | (with_reducible first | exact HB.out | apply below_alloc | apply pw_below_drewN | apply below_drew1) | exact HB.out)) hb); clear HO201; clear HO203; clear HB; have HO201 := n0_; have HO203 := n1_; have HO207 := n2_; have HO209 := n3_; have HB := n4_; clear n0_ n1_ n2_ n3_ n4_; (try clear hb); (try clear hb2); (try clear hk); (try clear hi); (try clear ho0); (try clear ho1))); go_upto_region 14 with (first | (go_at_call 15; (with_reducible refine (zoneinforef12_Plain.calls kj21 _ _ l2 true _ ?side1 ?side2 A30.out).mono ?_); (case side1 => repeat (first | exact (Kd.C_below HR2.out HB.out) | (with_reducible refine Kd.C_alloc ?_ _) | (with_reducible refine Kd.C_drewN ?_ _) | (with_reducible refine Kd.C_drew ?_))); (case side2 => exact HC2.out); rintro e w' ⟨rfl, ⟨nd, rfl⟩⟩; (try first | exact ⟨rfl, _, World.drewN_drewN _ _ _⟩ | exact ⟨rfl, _, Eq.trans (World.drewN_drewN _ _ _) (congrArg (World.drewN _) (Nat.add_assoc _ _ _))⟩)) | (go_at_call 16; (with_reducible refine (desigs_Build.calls _ _ l2 t198 t199 _ ?side1 ?side2 A32.out).mono ?_); (case side1 => repeat (first | exact (Kd.C_below HR2.out (by repeat (first | (with_reducible first | exact HB.out | apply below_alloc | apply pw_below_drewN | apply below_drew1) | exact HB.out))) | (with_reducible refine Kd.C_alloc ?_ _) | (with_reducible refine Kd.C_drewN ?_ _) | (with_reducible refine Kd.C_drew ?_))); (case side2 => exact HC2.out); rintro e w35 ⟨v200, v202, rfl, ho0, ho1, hb⟩; have n0_ := Aside0.mk (Kd.R_lower ho0 (below_size (by repeat (first | (with_reducible first | exact HB.out | apply below_alloc | apply pw_below_drewN | apply below_drew1) | exact HB.out)))); have n1_ := Aside0.mk (Kd.R_lower ho1 (below_size (by repeat (first | (with_reducible first | exact HB.out | apply below_alloc | apply pw_below_drewN | apply below_drew1) | exact HB.out)))); have n2_ := Aside0.mk (below_step (by repeat (first | (with_reducible first | exact HB.out | apply below_alloc | apply pw_below_drewN | apply below_drew1) | exact HB.out)) hb); clear HB; have HO201 := n0_; have HO203 := n1_; have HB := n2_; clear n0_ n1_ n2_; (try clear hb); (try clear hb2); (try clear hk); (try clear hi); (try clear ho0); (try clear ho1)) | (go_at_call 17; (with_reducible refine (zoneinforef12_Build.calls kj21 _ _ l2 t204 t205 _ ?side1 ?side2 A33.out).mono ?_); (case side1 => repeat (first | exact (Kd.C_below HR2.out HB.out) | (with_reducible refine Kd.C_alloc ?_ _) | (with_reducible refine Kd.C_drewN ?_ _) | (with_reducible refine Kd.C_drew ?_))); (case side2 => exact HC2.out); rintro e w36 ⟨v206, v208, rfl, ho0, ho1, hb⟩; have n0_ := Aside0.mk (Kd.R_elder' (by (with_reducible repeat (first | apply Kd.R_alloc | apply Kd.R_drewN | apply Kd.R_drew)); exact HO201.out) (Kd.R_base ho0) hb); have n1_ := Aside0.mk (Kd.R_elder' (by (with_reducible repeat (first | apply Kd.R_alloc | apply Kd.R_drewN | apply Kd.R_drew)); exact HO203.out) (Kd.R_base ho1) hb); have n2_ := Aside0.mk (Kd.R_lower (Kd.R_new' ho0 (Kd.R_lt (by (with_reducible repeat (first | apply Kd.R_alloc | apply Kd.R_drewN | apply Kd.R_drew)); exact HO201.out))) (below_size (by repeat (first | (with_reducible first | exact HB.out | apply below_alloc | apply pw_below_drewN | apply below_drew1) | exact HB.out)))); have n3_ := Aside0.mk (Kd.R_lower (Kd.R_new' ho1 (Kd.R_lt (by (with_reducible repeat (first | apply Kd.R_alloc | apply Kd.R_drewN | apply Kd.R_drew)); exact HO203.out))) (below_size (by repeat (first | (with_reducible first | exact HB.out | apply below_alloc | apply pw_below_drewN | apply below_drew1) | exact HB.out)))); have n4_ := Aside0.mk (below_step (by repeat (first | (with_reducible first | exact HB.out | apply below_alloc | apply pw_below_drewN | apply below_drew1) | exact HB.out)) hb); clear HO201; clear HO203; clear HB; have HO201 := n0_; have HO203 := n1_; have HO207 := n2_; have HO209 := n3_; have HB := n4_; clear n0_ n1_ n2_ n3_ n4_; (try clear hb); (try clear hb2); (try clear hk); (try clear hi); (try clear ho0); (try clear ho1))))
                    (try simp only [Act.put, List.setIfInBounds_toArray, List.set_cons_zero, List.set_cons_succ])
                    go_cut [86] (fun v86 wc => ∃ (kq : Nat) (x86_33 : Bool), v86 = .bool x86_33 ∧ Aside0 (zoneinfolaw12_DesigsMatchReference.j3 kq t199 t205 x86_33 = some r) ∧ Aside0 (kq ≤ kj21) ∧ Aside0 (Kd.R (Kd.int .i64) 3 wc w.heap.size (fun k_ => some k_ ≠ (v208 : Value).ownBlock) v202 t199) ∧ Aside0 (Kd.R (Kd.int .i64) 3 wc w.heap.size (fun k_ => some k_ ≠ (v202 : Value).ownBlock) v208 t205) ∧ Aside0 (Below w.heap.size w wc))
                    case first =>
                      have H := HC34.out
                      clear HC34
                      replace H := Option.bind_eq_some_iff.mp H
                      obtain ⟨t210, A370, H⟩ := H
                      replace H : (if t210 = true then (zoneinfolaw12_DesigsMatchReference.j3 kj21 t199 t205 ((t199.length : Int) != (t205.length : Int))) else (none)) = some r := H
                      have A37 := Aside0.mk A370
                      clear A370
                      by_cases c38 : t210 = true
                      · subst c38
                        have H1 : (zoneinfolaw12_DesigsMatchReference.j3 kj21 t199 t205 ((t199.length : Int) != (t205.length : Int))) = some r := by rw [if_pos rfl] at H; exact H
                        clear H
                        have H := H1
                        clear H1
                        have H' := Aside0.mk H
                        clear H
                        obtain ⟨Ao39, co39, eo39⟩ := Kd.R_slice HO201.out
                        subst eo39
                        obtain ⟨Ao40, co40, eo40⟩ := Kd.R_slice HO207.out
                        subst eo40
                        go_wp2_with (first | (go_at_call 18; (with_reducible refine (zoneinforef01_Same.calls kj21 _ _ t198 _ _ t204 true _ ?side1 ?side2 ?side3 ?side4 A37.out).mono ?_); (case side1 => repeat (first | exact (Kd.R_reads' HO201.out).2.2 | (with_reducible refine Kd.C_alloc ?_ _) | (with_reducible refine Kd.C_drewN ?_ _) | (with_reducible refine Kd.C_drew ?_))); (case side2 => exact (Kd.R_reads' HO201.out).2.1); (case side3 => repeat (first | exact (Kd.R_reads' HO207.out).2.2 | (with_reducible refine Kd.C_alloc ?_ _) | (with_reducible refine Kd.C_drewN ?_ _) | (with_reducible refine Kd.C_drew ?_))); (case side4 => exact (Kd.R_reads' HO207.out).2.1); rintro e w' ⟨rfl, ⟨nd, rfl⟩⟩; (try first | exact ⟨rfl, _, World.drewN_drewN _ _ _⟩ | exact ⟨rfl, _, Eq.trans (World.drewN_drewN _ _ _) (congrArg (World.drewN _) (Nat.add_assoc _ _ _))⟩); obtain ⟨Ao41, co41, eo41⟩ := Kd.R_slice HO203.out; subst eo41; obtain ⟨Ao42, co42, eo42⟩ := Kd.R_slice HO209.out; subst eo42))
                        repeat (go_quiet (first | (go_at_call 18; (with_reducible refine (zoneinforef01_Same.calls kj21 _ _ t198 _ _ t204 true _ ?side1 ?side2 ?side3 ?side4 A37.out).mono ?_); (case side1 => repeat (first | exact (Kd.R_reads' HO201.out).2.2 | (with_reducible refine Kd.C_alloc ?_ _) | (with_reducible refine Kd.C_drewN ?_ _) | (with_reducible refine Kd.C_drew ?_))); (case side2 => exact (Kd.R_reads' HO201.out).2.1); (case side3 => repeat (first | exact (Kd.R_reads' HO207.out).2.2 | (with_reducible refine Kd.C_alloc ?_ _) | (with_reducible refine Kd.C_drewN ?_ _) | (with_reducible refine Kd.C_drew ?_))); (case side4 => exact (Kd.R_reads' HO207.out).2.1); rintro e w' ⟨rfl, ⟨nd, rfl⟩⟩; (try first | exact ⟨rfl, _, World.drewN_drewN _ _ _⟩ | exact ⟨rfl, _, Eq.trans (World.drewN_drewN _ _ _) (congrArg (World.drewN _) (Nat.add_assoc _ _ _))⟩); obtain ⟨Ao41, co41, eo41⟩ := Kd.R_slice HO203.out; subst eo41; obtain ⟨Ao42, co42, eo42⟩ := Kd.R_slice HO209.out; subst eo42)); try go_wp2_with (first | (go_at_call 18; (with_reducible refine (zoneinforef01_Same.calls kj21 _ _ t198 _ _ t204 true _ ?side1 ?side2 ?side3 ?side4 A37.out).mono ?_); (case side1 => repeat (first | exact (Kd.R_reads' HO201.out).2.2 | (with_reducible refine Kd.C_alloc ?_ _) | (with_reducible refine Kd.C_drewN ?_ _) | (with_reducible refine Kd.C_drew ?_))); (case side2 => exact (Kd.R_reads' HO201.out).2.1); (case side3 => repeat (first | exact (Kd.R_reads' HO207.out).2.2 | (with_reducible refine Kd.C_alloc ?_ _) | (with_reducible refine Kd.C_drewN ?_ _) | (with_reducible refine Kd.C_drew ?_))); (case side4 => exact (Kd.R_reads' HO207.out).2.1); rintro e w' ⟨rfl, ⟨nd, rfl⟩⟩; (try first | exact ⟨rfl, _, World.drewN_drewN _ _ _⟩ | exact ⟨rfl, _, Eq.trans (World.drewN_drewN _ _ _) (congrArg (World.drewN _) (Nat.add_assoc _ _ _))⟩); obtain ⟨Ao41, co41, eo41⟩ := Kd.R_slice HO203.out; subst eo41; obtain ⟨Ao42, co42, eo42⟩ := Kd.R_slice HO209.out; subst eo42)))
                        go_meet
                        case rel => exact ⟨_, (((t199.length : Int) != (t205.length : Int))), (by first | rfl | (simp; done) | (simp [*]; done)), H', ⟨by have := HJ3.out; have := HJ13.out; have := HJ21.out; first | omega | exact Nat.le_refl _⟩, ⟨by (with_reducible repeat (first | apply Kd.R_alloc | apply Kd.R_drewN | apply Kd.R_drew)); exact Kd.R_mono HO203.out (fun _ hk => hk.2)⟩, ⟨by (with_reducible repeat (first | apply Kd.R_alloc | apply Kd.R_drewN | apply Kd.R_drew)); exact Kd.R_mono HO209.out (fun _ hk => hk.2)⟩, ⟨by repeat (first | (with_reducible first | exact HB.out | apply below_alloc | apply pw_below_drewN | apply below_drew1) | exact HB.out)⟩⟩
                      · replace c38 := Bool.eq_false_iff.mpr c38
                        subst c38
                        have H1 : (none) = some r := by rw [if_neg (show ¬ (false = true) by decide)] at H; exact H
                        clear H
                        have H := H1
                        clear H1
                        exact absurd H (by simp)
                    case rest =>
                      clear HC34
                      try clear c1
                      try clear c2
                      try clear p2
                      try clear c3
                      try clear c6
                      try clear c7
                      try clear c7b0
                      try clear c7b1
                      try clear c11
                      try clear c17
                      try clear c17b0
                      try clear c17b1
                      try clear c17b2
                      try clear c20
                      try clear c23
                      try clear c26
                      try clear c26b0
                      try clear c26b1
                      try clear c27
                      try clear c27b0
                      try clear c27b1
                      try clear c27b2
                      try clear c31
                      try clear c38
                      try clear p2
                      obtain ⟨kq, x86_33, rfl, HA, HJ33, HO_12, HO_14, HB⟩ := hcut
                      cases kq with
                      | zero => exact absurd HA.out (by simp [zoneinfolaw12_DesigsMatchReference.j3])
                      | succ kj33 =>
                        have H := HA.out
                        clear HA
                        simp only [zoneinfolaw12_DesigsMatchReference.j3] at H
                        by_cases c43 : x86_33 = true
                        · subst c43
                          have H1 : (none) = some r := by rw [if_pos rfl] at H; exact H
                          clear H
                          have H := H1
                          clear H1
                          exact absurd H (by simp)
                        · replace c43 := Bool.eq_false_iff.mpr c43
                          subst c43
                          have H1 : (zoneinfolaw12_DesigsMatchReference.l0 kj33 t199 t205 0) = some r := by rw [if_neg (show ¬ (false = true) by decide)] at H; exact H
                          clear H
                          have H := H1
                          clear H1
                          have H' := Aside0.mk H
                          clear H
                          go_wp2
                          repeat (go_quiet (fail); try go_wp2)
                          go_loopg [15] kj33 (fun kq v15 w' => ∃ (x15_5 : Int), v15 = .int .i64 x15_5 ∧ Aside0 (zoneinfolaw12_DesigsMatchReference.l0 kq t199 t205 x15_5 = some r) ∧ Aside0 (kq ≤ kj33) ∧ Aside0 (Kd.R (Kd.int .i64) 3 w' w.heap.size (fun k_ => some k_ ≠ (v208 : Value).ownBlock) v202 t199) ∧ Aside0 (Kd.R (Kd.int .i64) 3 w' w.heap.size (fun k_ => some k_ ≠ (v202 : Value).ownBlock) v208 t205) ∧ Aside0 (Below w.heap.size w w'))
                          case atStart => exact ⟨(0), (by first | rfl | (simp; done) | (simp [*]; done)), H', ⟨Nat.le_refl _⟩, ⟨by (with_reducible repeat (first | apply Kd.R_alloc | apply Kd.R_drewN | apply Kd.R_drew)); exact HO_12.out⟩, ⟨by (with_reducible repeat (first | apply Kd.R_alloc | apply Kd.R_drewN | apply Kd.R_drew)); exact HO_14.out⟩, ⟨by repeat (first | (with_reducible first | exact HB.out | apply below_alloc | apply pw_below_drewN | apply below_drew1) | exact HB.out)⟩⟩
                          case round =>
                            clear H'
                            try clear c1
                            try clear c2
                            try clear p2
                            try clear c3
                            try clear c4
                            try clear c6
                            try clear c7
                            try clear c7b0
                            try clear c7b1
                            try clear c11
                            try clear c17
                            try clear c17b0
                            try clear c17b1
                            try clear c17b2
                            try clear c20
                            try clear c23
                            try clear c26
                            try clear c26b0
                            try clear c26b1
                            try clear c27
                            try clear c27b0
                            try clear c27b1
                            try clear c27b2
                            try clear c31
                            try clear c38
                            try clear c43
                            try clear p2
                            obtain ⟨x15_5, rfl, HA, HK5, HO_12, HO_14, HB⟩ := hrel
                            cases gk with
                            | zero => exact absurd HA.out (by simp [zoneinfolaw12_DesigsMatchReference.l0])
                            | succ k5 =>
                              have H := HA.out
                              clear HA
                              simp only [zoneinfolaw12_DesigsMatchReference.l0] at H
                              by_cases c44 : x15_5 < (t199.length : Int)
                              · rw [if_pos c44] at H
                                have c44b0 : decide (x15_5 < (t199.length : Int)) = true := decide_eq_true c44
                                clear c44
                                by_cases c45 : 0 ≤ x15_5
                                · rw [if_pos c45] at H
                                  have c45b0 : decide (0 ≤ x15_5) = true := decide_eq_true c45
                                  clear c45
                                  by_cases c46 : x15_5 < (t205.length : Int)
                                  · rw [if_pos c46] at H
                                    have c46b0 : decide (x15_5 < (t205.length : Int)) = true := decide_eq_true c46
                                    clear c46
                                    by_cases c47 : (rd t199 x15_5) = (rd t205 x15_5)
                                    · rw [if_pos c47] at H
                                      have c47b0 : ((rd t199 x15_5) == (rd t205 x15_5)) = true := beq_iff_eq.mpr c47
                                      have c47b1 : ((rd t199 x15_5) != (rd t205 x15_5)) = false := bne_eq_false_iff_eq.mpr c47
                                      clear c47
                                      have H' := Aside0.mk H
                                      clear H
                                      obtain ⟨Ao48, co48, eo48⟩ := Kd.R_slice HO_12.out
                                      subst eo48
                                      have p211 : 0 ≤ (x15_5 : Int) := of_decide_eq_true (by first | (with_reducible assumption) | assumption)
                                      have q211 : x15_5 < (t199.length : Int) := of_decide_eq_true (by first | (with_reducible assumption) | assumption)
                                      obtain ⟨ad211, e211, hx211_0⟩ := Kd.at_int (Kd.R_reads' HO_12.out).2.2 x15_5 p211 q211
                                      cases e211
                                      replace p211 := eq_true p211
                                      replace q211 := eq_true q211
                                      obtain ⟨Ao49, co49, eo49⟩ := Kd.R_slice HO_14.out
                                      subst eo49
                                      have p212 : 0 ≤ (x15_5 : Int) := of_decide_eq_true (by first | (with_reducible assumption) | assumption)
                                      have q212 : x15_5 < (t205.length : Int) := of_decide_eq_true (by first | (with_reducible assumption) | assumption)
                                      obtain ⟨ad212, e212, hx212_0⟩ := Kd.at_int (Kd.R_reads' HO_14.out).2.2 x15_5 p212 q212
                                      cases e212
                                      replace p212 := eq_true p212
                                      replace q212 := eq_true q212
                                      go_wp2
                                      repeat (go_quiet (fail); try go_wp2)
                                      go_roundg k5
                                      case measure => have := HJ3.out; have := HJ13.out; have := HJ21.out; have := HJ33.out; have := HK5.out; omega
                                      case rel => exact ⟨(wrap64 (x15_5 + 1)), (by first | rfl | (simp; done) | (simp [*]; done)), H', ⟨by have := HJ3.out; have := HJ13.out; have := HJ21.out; have := HJ33.out; have := HK5.out; omega⟩, ⟨by (with_reducible repeat (first | apply Kd.R_alloc | apply Kd.R_drewN | apply Kd.R_drew)); exact HO_12.out⟩, ⟨by (with_reducible repeat (first | apply Kd.R_alloc | apply Kd.R_drewN | apply Kd.R_drew)); exact HO_14.out⟩, ⟨by repeat (first | (with_reducible first | exact HB.out | apply below_alloc | apply pw_below_drewN | apply below_drew1) | exact HB.out)⟩⟩
                                    · rw [if_neg c47] at H
                                      exact absurd H (by simp)
                                  · rw [if_neg c46] at H
                                    exact absurd H (by simp)
                                · rw [if_neg c45] at H
                                  exact absurd H (by simp)
                              · rw [if_neg c44] at H
                                have c44b0 : decide (x15_5 < (t199.length : Int)) = false := decide_eq_false c44
                                clear c44
                                obtain rfl := Option.some.inj H
                                obtain ⟨Ao50, co50, eo50⟩ := Kd.R_slice HO_12.out
                                subst eo50
                                go_wp2
                                repeat (go_quiet (fail); try go_wp2)
                                go_ret
                                exact ⟨by first | rfl | (simp [errW_none, errW_some] <;> rfl) | (simp [*, errW_none, errW_some] <;> rfl), by repeat (first | (with_reducible first | exact HB.out | apply below_alloc | apply pw_below_drewN | apply below_drew1) | exact HB.out)⟩
                  · replace c31 := Bool.eq_false_iff.mpr c31
                    subst c31
                    have H1 : (some true) = some r := by rw [if_neg (show ¬ (false = true) by decide)] at H; exact H
                    clear H
                    have H := H1
                    clear H1
                    obtain rfl := Option.some.inj H
                    go_wp2_with (first | (go_at_call 15; (with_reducible refine (zoneinforef12_Plain.calls kj21 _ _ l2 false _ ?side1 ?side2 A30.out).mono ?_); (case side1 => repeat (first | exact (Kd.C_below HR2.out HB.out) | (with_reducible refine Kd.C_alloc ?_ _) | (with_reducible refine Kd.C_drewN ?_ _) | (with_reducible refine Kd.C_drew ?_))); (case side2 => exact HC2.out); rintro e w' ⟨rfl, ⟨nd, rfl⟩⟩; (try first | exact ⟨rfl, _, World.drewN_drewN _ _ _⟩ | exact ⟨rfl, _, Eq.trans (World.drewN_drewN _ _ _) (congrArg (World.drewN _) (Nat.add_assoc _ _ _))⟩)))
                    repeat (go_quiet (first | (go_at_call 15; (with_reducible refine (zoneinforef12_Plain.calls kj21 _ _ l2 false _ ?side1 ?side2 A30.out).mono ?_); (case side1 => repeat (first | exact (Kd.C_below HR2.out HB.out) | (with_reducible refine Kd.C_alloc ?_ _) | (with_reducible refine Kd.C_drewN ?_ _) | (with_reducible refine Kd.C_drew ?_))); (case side2 => exact HC2.out); rintro e w' ⟨rfl, ⟨nd, rfl⟩⟩; (try first | exact ⟨rfl, _, World.drewN_drewN _ _ _⟩ | exact ⟨rfl, _, Eq.trans (World.drewN_drewN _ _ _) (congrArg (World.drewN _) (Nat.add_assoc _ _ _))⟩))); try go_wp2_with (first | (go_at_call 15; (with_reducible refine (zoneinforef12_Plain.calls kj21 _ _ l2 false _ ?side1 ?side2 A30.out).mono ?_); (case side1 => repeat (first | exact (Kd.C_below HR2.out HB.out) | (with_reducible refine Kd.C_alloc ?_ _) | (with_reducible refine Kd.C_drewN ?_ _) | (with_reducible refine Kd.C_drew ?_))); (case side2 => exact HC2.out); rintro e w' ⟨rfl, ⟨nd, rfl⟩⟩; (try first | exact ⟨rfl, _, World.drewN_drewN _ _ _⟩ | exact ⟨rfl, _, Eq.trans (World.drewN_drewN _ _ _) (congrArg (World.drewN _) (Nat.add_assoc _ _ _))⟩))))
                    go_ret
                    exact ⟨by first | rfl | (simp [errW_none, errW_some] <;> rfl) | (simp [*, errW_none, errW_some] <;> rfl), by repeat (first | (with_reducible first | exact HB.out | apply below_alloc | apply pw_below_drewN | apply below_drew1) | exact HB.out)⟩

end Go.Proofs.Ytchlggnbgabddaa.G
