/- Written by a program of this session for this seat: contracts of the functions that its laws reach, or the row of a law over its plain part. -/
import Derived.Test.YtchlggnbgabddaaGx0
import Derived.Test.YtchlggnbgabddaaGx4
import Derived.Test.YtchlggnbgabddaaGx5
import Derived.Test.YtchlggnbgabddaaGx18
import Derived.Test.YtchlggnbgabddaaGx19
import Derived.Test.YtchlggnbgabddaaGx21
namespace Go.Proofs.Ytchlggnbgabddaa.G
open Go.RowKit Go.Proofs.YtchlggnbgabddaaW.PrintWords Go.Proofs.YtchlggnbgabddaaW.PrintLast Go.Proofs.YtchlggnbgabddaaW.PrintMore
attribute [local go_sem] max2_int min2_int max_two min_two max_three min_three max_four min_four   -- for this text's walks alone
set_option linter.unusedVariables false
set_option linter.unusedSimpArgs false

/-! ### zoneinfolaw12_DesigsValidity: function 6 -/
mutual
def zoneinfolaw12_DesigsValidity.j0 : Nat → List Int → List Int → Int → Int → Bool → Option (Bool)
  | 0, _, _, _, _, _ => none
  | k + 1, x0, x1, x2, x3, x37 => if x37 = true then ((zoneinfolaw12_awake.f k).bind fun t251 => (some t251)) else ((some (([] : List Int) : List Int)).bind fun y252 => (if y252.length + x0.length < 140737488355328 then ((some (y252 ++ x0 : List Int)).bind fun y255 => (if y255.length + x1.length < 140737488355328 then ((some (y255 ++ x1 : List Int)).bind fun y258 => (if 0 ≤ (wrap64 ((x0.length : Int) - 1)) then (if (wrap64 ((x0.length : Int) - 1)) ≤ (x0.length : Int) then ((some (x0.take ((wrap64 ((x0.length : Int) - 1)) : Int).toNat : List Int)).bind fun y261 => (if (y261.length : Int) = 0 then (zoneinfolaw12_DesigsValidity.j1 k x2 x3 y258 y261 true) else (if 0 ≤ (wrap64 ((y261.length : Int) - 1)) then (if (wrap64 ((y261.length : Int) - 1)) < (y261.length : Int) then (zoneinfolaw12_DesigsValidity.j1 k x2 x3 y258 y261 ((rd y261 (wrap64 ((y261.length : Int) - 1))) != 0)) else (none)) else (none)))) else (none)) else (none))) else (none))) else (none)))
def zoneinfolaw12_DesigsValidity.j1 : Nat → Int → Int → List Int → List Int → Bool → Option (Bool)
  | 0, _, _, _, _, _ => none
  | k + 1, x2, x3, x9, x10, x11 => (some (([] : List Int) : List Int)).bind fun y266 => (if y266.length + x9.length < 140737488355328 then ((some (y266 ++ x9 : List Int)).bind fun y269 => (if (y269.length : Int) = 0 then (none) else (if 0 ≤ (Int.tmod (wrap64 (x2)) (y269.length : Int)) then (if (Int.tmod (wrap64 (x2)) (y269.length : Int)) < (y269.length : Int) then ((some (y269.set ((Int.tmod (wrap64 (x2)) (y269.length : Int)) : Int).toNat x3 : List Int)).bind fun y272 => (if x3 = 0 then (zoneinfolaw12_DesigsValidity.j2 k x3 x9 x10 x11 y272 (Int.tmod (wrap64 (x2)) (y269.length : Int)) true) else ((zoneinforef12_Allowed.f x3).bind fun t273 => (zoneinfolaw12_DesigsValidity.j2 k x3 x9 x10 x11 y272 (Int.tmod (wrap64 (x2)) (y269.length : Int)) t273)))) else (none)) else (none)))) else (none))
def zoneinfolaw12_DesigsValidity.j2 : Nat → Int → List Int → List Int → Bool → List Int → Int → Bool → Option (Bool)
  | 0, _, _, _, _, _, _, _ => none
  | k + 1, x3, x9, x10, x11, x12, x13, x14 => if x14 = true then (if x13 = (wrap64 ((x12.length : Int) - 1)) then (if x3 = 0 then (zoneinfolaw12_DesigsValidity.j3 k x9 x10 x11 x12 (-1)) else (zoneinfolaw12_DesigsValidity.j3 k x9 x10 x11 x12 (x12.length : Int))) else (zoneinfolaw12_DesigsValidity.j3 k x9 x10 x11 x12 (-1))) else (zoneinfolaw12_DesigsValidity.j3 k x9 x10 x11 x12 x13)
def zoneinfolaw12_DesigsValidity.j3 : Nat → List Int → List Int → Bool → List Int → Int → Option (Bool)
  | 0, _, _, _, _, _ => none
  | k + 1, x9, x10, x11, x12, x15 => (desigs_Valid.f k x9).bind fun t274 => (if t274 = true then ((desigs_Valid.f k x10).bind fun t275 => (if (t275 == (!x11)) = true then (if x11 = true then ((desigs_Bad.f k x10).bind fun t276 => (if t276 = (x10.length : Int) then ((desigs_Bad.f k x12).bind fun t277 => (some (t277 == x15))) else (none))) else ((desigs_Bad.f k x12).bind fun t278 => (some (t278 == x15)))) else (none))) else (none))
end
def zoneinfolaw12_DesigsValidity.f (k : Nat) (l0 : List Int) (l1 : List Int) (a2 : Int) (a3 : Int) : Option (Bool) := (zoneinfolaw12_awake.f k).bind fun t248 => (if t248 = true then (if (l0.length : Int) > 500 then (zoneinfolaw12_DesigsValidity.j0 k l0 l1 a2 a3 true) else (if (l1.length : Int) > 500 then (zoneinfolaw12_DesigsValidity.j0 k l0 l1 a2 a3 true) else ((zoneinforef12_Valid.f k l0).bind fun t249 => (if t249 = true then ((zoneinforef12_Valid.f k l1).bind fun t250 => (zoneinfolaw12_DesigsValidity.j0 k l0 l1 a2 a3 (!t250))) else (zoneinfolaw12_DesigsValidity.j0 k l0 l1 a2 a3 true))))) else (zoneinfolaw12_DesigsValidity.j0 k l0 l1 a2 a3 true))
theorem zoneinfolaw12_DesigsValidity.mono_l : ∀ k, (∀ y0 y1 y2 y3 y4, LeO (zoneinfolaw12_DesigsValidity.j0 k y0 y1 y2 y3 y4) (zoneinfolaw12_DesigsValidity.j0 (k + 1) y0 y1 y2 y3 y4)) ∧ (∀ y0 y1 y2 y3 y4, LeO (zoneinfolaw12_DesigsValidity.j1 k y0 y1 y2 y3 y4) (zoneinfolaw12_DesigsValidity.j1 (k + 1) y0 y1 y2 y3 y4)) ∧ (∀ y0 y1 y2 y3 y4 y5 y6, LeO (zoneinfolaw12_DesigsValidity.j2 k y0 y1 y2 y3 y4 y5 y6) (zoneinfolaw12_DesigsValidity.j2 (k + 1) y0 y1 y2 y3 y4 y5 y6)) ∧ (∀ y0 y1 y2 y3 y4, LeO (zoneinfolaw12_DesigsValidity.j3 k y0 y1 y2 y3 y4) (zoneinfolaw12_DesigsValidity.j3 (k + 1) y0 y1 y2 y3 y4))
  | 0 => ⟨fun _ _ _ _ _ r h => by simp [zoneinfolaw12_DesigsValidity.j0] at h, fun _ _ _ _ _ r h => by simp [zoneinfolaw12_DesigsValidity.j1] at h, fun _ _ _ _ _ _ _ r h => by simp [zoneinfolaw12_DesigsValidity.j2] at h, fun _ _ _ _ _ r h => by simp [zoneinfolaw12_DesigsValidity.j3] at h⟩
  | k + 1 => by
    obtain ⟨ih0, ih1, ih2, ih3⟩ := zoneinfolaw12_DesigsValidity.mono_l k
    refine ⟨?_, ?_, ?_, ?_⟩
    · intro y0 y1 y2 y3 y4
      unfold zoneinfolaw12_DesigsValidity.j0
      repeat' first
      | (with_reducible exact ih0 _ _ _ _ _)
      | (with_reducible exact ih1 _ _ _ _ _)
      | (with_reducible exact ih2 _ _ _ _ _ _ _)
      | (with_reducible exact ih3 _ _ _ _ _)
      | (with_reducible exact desigs_Bad.mono _ _)
      | (with_reducible exact desigs_Valid.mono _ _)
      | (with_reducible exact zoneinfolaw12_awake.mono _)
      | (with_reducible exact zoneinforef12_Valid.mono _ _)
      | (with_reducible exact LeO.refl _)
      | (with_reducible exact LeO.none _)
      | (with_reducible refine LeO.ite ?_ ?_)
      | (with_reducible refine LeO.bind ?_ (fun _ => ?_))
      | exact ih0 _ _ _ _ _
      | exact ih1 _ _ _ _ _
      | exact ih2 _ _ _ _ _ _ _
      | exact ih3 _ _ _ _ _
      | exact desigs_Bad.mono _ _
      | exact desigs_Valid.mono _ _
      | exact zoneinfolaw12_awake.mono _
      | exact zoneinforef12_Valid.mono _ _
      | exact LeO.none _
      | refine LeO.ite ?_ ?_
      | refine LeO.bind ?_ (fun _ => ?_)
    · intro y0 y1 y2 y3 y4
      unfold zoneinfolaw12_DesigsValidity.j1
      repeat' first
      | (with_reducible exact ih0 _ _ _ _ _)
      | (with_reducible exact ih1 _ _ _ _ _)
      | (with_reducible exact ih2 _ _ _ _ _ _ _)
      | (with_reducible exact ih3 _ _ _ _ _)
      | (with_reducible exact desigs_Bad.mono _ _)
      | (with_reducible exact desigs_Valid.mono _ _)
      | (with_reducible exact zoneinfolaw12_awake.mono _)
      | (with_reducible exact zoneinforef12_Valid.mono _ _)
      | (with_reducible exact LeO.refl _)
      | (with_reducible exact LeO.none _)
      | (with_reducible refine LeO.ite ?_ ?_)
      | (with_reducible refine LeO.bind ?_ (fun _ => ?_))
      | exact ih0 _ _ _ _ _
      | exact ih1 _ _ _ _ _
      | exact ih2 _ _ _ _ _ _ _
      | exact ih3 _ _ _ _ _
      | exact desigs_Bad.mono _ _
      | exact desigs_Valid.mono _ _
      | exact zoneinfolaw12_awake.mono _
      | exact zoneinforef12_Valid.mono _ _
      | exact LeO.none _
      | refine LeO.ite ?_ ?_
      | refine LeO.bind ?_ (fun _ => ?_)
    · intro y0 y1 y2 y3 y4 y5 y6
      unfold zoneinfolaw12_DesigsValidity.j2
      repeat' first
      | (with_reducible exact ih0 _ _ _ _ _)
      | (with_reducible exact ih1 _ _ _ _ _)
      | (with_reducible exact ih2 _ _ _ _ _ _ _)
      | (with_reducible exact ih3 _ _ _ _ _)
      | (with_reducible exact desigs_Bad.mono _ _)
      | (with_reducible exact desigs_Valid.mono _ _)
      | (with_reducible exact zoneinfolaw12_awake.mono _)
      | (with_reducible exact zoneinforef12_Valid.mono _ _)
      | (with_reducible exact LeO.refl _)
      | (with_reducible exact LeO.none _)
      | (with_reducible refine LeO.ite ?_ ?_)
      | (with_reducible refine LeO.bind ?_ (fun _ => ?_))
      | exact ih0 _ _ _ _ _
      | exact ih1 _ _ _ _ _
      | exact ih2 _ _ _ _ _ _ _
      | exact ih3 _ _ _ _ _
      | exact desigs_Bad.mono _ _
      | exact desigs_Valid.mono _ _
      | exact zoneinfolaw12_awake.mono _
      | exact zoneinforef12_Valid.mono _ _
      | exact LeO.none _
      | refine LeO.ite ?_ ?_
      | refine LeO.bind ?_ (fun _ => ?_)
    · intro y0 y1 y2 y3 y4
      unfold zoneinfolaw12_DesigsValidity.j3
      repeat' first
      | (with_reducible exact ih0 _ _ _ _ _)
      | (with_reducible exact ih1 _ _ _ _ _)
      | (with_reducible exact ih2 _ _ _ _ _ _ _)
      | (with_reducible exact ih3 _ _ _ _ _)
      | (with_reducible exact desigs_Bad.mono _ _)
      | (with_reducible exact desigs_Valid.mono _ _)
      | (with_reducible exact zoneinfolaw12_awake.mono _)
      | (with_reducible exact zoneinforef12_Valid.mono _ _)
      | (with_reducible exact LeO.refl _)
      | (with_reducible exact LeO.none _)
      | (with_reducible refine LeO.ite ?_ ?_)
      | (with_reducible refine LeO.bind ?_ (fun _ => ?_))
      | exact ih0 _ _ _ _ _
      | exact ih1 _ _ _ _ _
      | exact ih2 _ _ _ _ _ _ _
      | exact ih3 _ _ _ _ _
      | exact desigs_Bad.mono _ _
      | exact desigs_Valid.mono _ _
      | exact zoneinfolaw12_awake.mono _
      | exact zoneinforef12_Valid.mono _ _
      | exact LeO.none _
      | refine LeO.ite ?_ ?_
      | refine LeO.bind ?_ (fun _ => ?_)
theorem zoneinfolaw12_DesigsValidity.mono : ∀ a0 a1 a2 a3 k, LeO (zoneinfolaw12_DesigsValidity.f k a0 a1 a2 a3) (zoneinfolaw12_DesigsValidity.f (k + 1) a0 a1 a2 a3) := by
  intro a0 a1 a2 a3 k
  obtain ⟨ih0, ih1, ih2, ih3⟩ := zoneinfolaw12_DesigsValidity.mono_l k
  unfold zoneinfolaw12_DesigsValidity.f
  repeat' first
      | (with_reducible exact ih0 _ _ _ _ _)
      | (with_reducible exact ih1 _ _ _ _ _)
      | (with_reducible exact ih2 _ _ _ _ _ _ _)
      | (with_reducible exact ih3 _ _ _ _ _)
      | (with_reducible exact desigs_Bad.mono _ _)
      | (with_reducible exact desigs_Valid.mono _ _)
      | (with_reducible exact zoneinfolaw12_awake.mono _)
      | (with_reducible exact zoneinforef12_Valid.mono _ _)
      | (with_reducible exact LeO.refl _)
      | (with_reducible exact LeO.none _)
      | (with_reducible refine LeO.ite ?_ ?_)
      | (with_reducible refine LeO.bind ?_ (fun _ => ?_))
      | exact ih0 _ _ _ _ _
      | exact ih1 _ _ _ _ _
      | exact ih2 _ _ _ _ _ _ _
      | exact ih3 _ _ _ _ _
      | exact desigs_Bad.mono _ _
      | exact desigs_Valid.mono _ _
      | exact zoneinfolaw12_awake.mono _
      | exact zoneinforef12_Valid.mono _ _
      | exact LeO.none _
      | refine LeO.ite ?_ ?_
      | refine LeO.bind ?_ (fun _ => ?_)
set_option maxHeartbeats 8000000 in
set_option maxRecDepth 100000 in
theorem zoneinfolaw12_DesigsValidity.calls (k : Nat) (A0 : Option Addr) (c0 : Nat) (l0 : List Int) (A1 : Option Addr) (c1 : Nat) (l1 : List Int) (a2 : Int) (a3 : Int) (r : Bool) (w : World) (hr0 : Kd.C (Kd.int .u8) w A0 l0.length l0) (hc0 : l0.length ≤ c0) (hr1 : Kd.C (Kd.int .u8) w A1 l1.length l1) (hc1 : l1.length ≤ c1) (h : zoneinfolaw12_DesigsValidity.f k l0 l1 a2 a3 = some r) :
    Calls Try.prog 6 #[.slice A0 l0.length c0, .slice A1 l1.length c1, .int .u16 a2, .int .u8 a3] w fun e w' => e = .returned (.bool r) ∧ Below w.heap.size w w' := by
  have HR0 := Aside0.mk hr0
  have HC0 := Aside0.mk hc0
  clear hr0 hc0
  have HR1 := Aside0.mk hr1
  have HC1 := Aside0.mk hc1
  clear hr1 hc1
  have HB := Aside0.mk (Below.refl w.heap.size w)
  have H : ((zoneinfolaw12_awake.f k).bind fun t248 => (if t248 = true then (if (l0.length : Int) > 500 then (zoneinfolaw12_DesigsValidity.j0 k l0 l1 a2 a3 true) else (if (l1.length : Int) > 500 then (zoneinfolaw12_DesigsValidity.j0 k l0 l1 a2 a3 true) else ((zoneinforef12_Valid.f k l0).bind fun t249 => (if t249 = true then ((zoneinforef12_Valid.f k l1).bind fun t250 => (zoneinfolaw12_DesigsValidity.j0 k l0 l1 a2 a3 (!t250))) else (zoneinfolaw12_DesigsValidity.j0 k l0 l1 a2 a3 true))))) else (zoneinfolaw12_DesigsValidity.j0 k l0 l1 a2 a3 true))) = some r := h
  clear h
  have HC5 := Aside0.mk H
  clear H
  go_enter Try.func6, Try.ntmps6
  (try simp only [List.append_eq, List.cons_append, List.nil_append])
  go_upto_region 1 with (fail)
  go_cut [37] (fun v37 wc => ∃ (kq : Nat) (x37_4 : Bool), v37 = .bool x37_4 ∧ Aside0 (zoneinfolaw12_DesigsValidity.j0 kq l0 l1 a2 a3 x37_4 = some r) ∧ Aside0 (kq ≤ k) ∧ Aside0 (Below w.heap.size w wc))
  case first =>
    have H := HC5.out
    clear HC5
    replace H := Option.bind_eq_some_iff.mp H
    obtain ⟨t248, A60, H⟩ := H
    replace H : (if t248 = true then (if (l0.length : Int) > 500 then (zoneinfolaw12_DesigsValidity.j0 k l0 l1 a2 a3 true) else (if (l1.length : Int) > 500 then (zoneinfolaw12_DesigsValidity.j0 k l0 l1 a2 a3 true) else ((zoneinforef12_Valid.f k l0).bind fun t249 => (if t249 = true then ((zoneinforef12_Valid.f k l1).bind fun t250 => (zoneinfolaw12_DesigsValidity.j0 k l0 l1 a2 a3 (!t250))) else (zoneinfolaw12_DesigsValidity.j0 k l0 l1 a2 a3 true))))) else (zoneinfolaw12_DesigsValidity.j0 k l0 l1 a2 a3 true)) = some r := H
    have A6 := Aside0.mk A60
    clear A60
    by_cases c7 : t248 = true
    · subst c7
      have H1 : (if (l0.length : Int) > 500 then (zoneinfolaw12_DesigsValidity.j0 k l0 l1 a2 a3 true) else (if (l1.length : Int) > 500 then (zoneinfolaw12_DesigsValidity.j0 k l0 l1 a2 a3 true) else ((zoneinforef12_Valid.f k l0).bind fun t249 => (if t249 = true then ((zoneinforef12_Valid.f k l1).bind fun t250 => (zoneinfolaw12_DesigsValidity.j0 k l0 l1 a2 a3 (!t250))) else (zoneinfolaw12_DesigsValidity.j0 k l0 l1 a2 a3 true))))) = some r := by rw [if_pos rfl] at H; exact H
      clear H
      have H := H1
      clear H1
      by_cases c8 : (l0.length : Int) > 500
      · rw [if_pos c8] at H
        have c8b0 : decide (500 < (l0.length : Int)) = true := decide_eq_true c8
        have c8b1 : decide (500 < l0.length) = true := decide_eq_true (by omega)
        clear c8
        (first | rw [c8b0] | (simp only [i64_w, i32_w]; rw [c8b0]) | skip)
        have H' := Aside0.mk H
        clear H
        go_wp2_with (first | (go_at_call 8; (with_reducible refine (zoneinfolaw12_awake.calls k  true _ A6.out).mono ?_); rintro e w9 ⟨rfl, hb⟩; have n0_ := Aside0.mk (below_step (by repeat (first | (with_reducible first | exact HB.out | apply below_alloc | apply pw_below_drewN | apply below_drew1) | exact HB.out)) hb); clear HB; have HB := n0_; clear n0_; (try clear hb); (try clear hb2); (try clear hk); (try clear hi)))
        go_meet
        case rel => exact ⟨_, (true), (by first | rfl | (simp; done) | (simp [*]; done)), H', ⟨by first | omega | exact Nat.le_refl _⟩, ⟨by repeat (first | (with_reducible first | exact HB.out | apply below_alloc | apply pw_below_drewN | apply below_drew1) | exact HB.out)⟩⟩
      · rw [if_neg c8] at H
        have c8b0 : decide (500 < (l0.length : Int)) = false := decide_eq_false c8
        have c8b1 : decide (500 < l0.length) = false := decide_eq_false (by omega)
        clear c8
        (first | rw [c8b0] | (simp only [i64_w, i32_w]; rw [c8b0]) | skip)
        by_cases c10 : (l1.length : Int) > 500
        · rw [if_pos c10] at H
          have c10b0 : decide (500 < (l1.length : Int)) = true := decide_eq_true c10
          have c10b1 : decide (500 < l1.length) = true := decide_eq_true (by omega)
          clear c10
          have H' := Aside0.mk H
          clear H
          go_wp2_with (first | (go_at_call 8; (with_reducible refine (zoneinfolaw12_awake.calls k  true _ A6.out).mono ?_); rintro e w11 ⟨rfl, hb⟩; have n0_ := Aside0.mk (below_step (by repeat (first | (with_reducible first | exact HB.out | apply below_alloc | apply pw_below_drewN | apply below_drew1) | exact HB.out)) hb); clear HB; have HB := n0_; clear n0_; (try clear hb); (try clear hb2); (try clear hk); (try clear hi)))
          go_meet
          case rel => exact ⟨_, (true), (by first | rfl | (simp; done) | (simp [*]; done)), H', ⟨by first | omega | exact Nat.le_refl _⟩, ⟨by repeat (first | (with_reducible first | exact HB.out | apply below_alloc | apply pw_below_drewN | apply below_drew1) | exact HB.out)⟩⟩
        · rw [if_neg c10] at H
          have c10b0 : decide (500 < (l1.length : Int)) = false := decide_eq_false c10
          have c10b1 : decide (500 < l1.length) = false := decide_eq_false (by omega)
          clear c10
          replace H := Option.bind_eq_some_iff.mp H
          obtain ⟨t249, A120, H⟩ := H
          replace H : (if t249 = true then ((zoneinforef12_Valid.f k l1).bind fun t250 => (zoneinfolaw12_DesigsValidity.j0 k l0 l1 a2 a3 (!t250))) else (zoneinfolaw12_DesigsValidity.j0 k l0 l1 a2 a3 true)) = some r := H
          have A12 := Aside0.mk A120
          clear A120
          by_cases c13 : t249 = true
          · subst c13
            have H1 : ((zoneinforef12_Valid.f k l1).bind fun t250 => (zoneinfolaw12_DesigsValidity.j0 k l0 l1 a2 a3 (!t250))) = some r := by rw [if_pos rfl] at H; exact H
            clear H
            have H := H1
            clear H1
            replace H := Option.bind_eq_some_iff.mp H
            obtain ⟨t250, A140, H⟩ := H
            replace H : (zoneinfolaw12_DesigsValidity.j0 k l0 l1 a2 a3 (!t250)) = some r := H
            have A14 := Aside0.mk A140
            clear A140
            have H' := Aside0.mk H
            clear H
            go_wp2_with (first | (go_at_call 8; (with_reducible refine (zoneinfolaw12_awake.calls k  true _ A6.out).mono ?_); rintro e w15 ⟨rfl, hb⟩; have n0_ := Aside0.mk (below_step (by repeat (first | (with_reducible first | exact HB.out | apply below_alloc | apply pw_below_drewN | apply below_drew1) | exact HB.out)) hb); clear HB; have HB := n0_; clear n0_; (try clear hb); (try clear hb2); (try clear hk); (try clear hi)) | (go_at_call 10; (with_reducible refine (zoneinforef12_Valid.calls k _ _ l0 true _ ?side1 ?side2 A12.out).mono ?_); (case side1 => repeat (first | exact (Kd.C_below HR0.out HB.out) | (with_reducible refine Kd.C_alloc ?_ _) | (with_reducible refine Kd.C_drewN ?_ _) | (with_reducible refine Kd.C_drew ?_))); (case side2 => exact HC0.out); rintro e w' ⟨rfl, ⟨nd, rfl⟩⟩) | (go_at_call 10; (with_reducible refine (zoneinforef12_Valid.calls k _ _ l1 t250 _ ?side1 ?side2 A14.out).mono ?_); (case side1 => repeat (first | exact (Kd.C_below HR1.out (by repeat (first | (with_reducible first | exact HB.out | apply below_alloc | apply pw_below_drewN | apply below_drew1) | exact HB.out))) | (with_reducible refine Kd.C_alloc ?_ _) | (with_reducible refine Kd.C_drewN ?_ _) | (with_reducible refine Kd.C_drew ?_))); (case side2 => exact HC1.out); rintro e w' ⟨rfl, ⟨nd, rfl⟩⟩))
            go_meet
            case rel => exact ⟨_, (!t250), (by first | rfl | (simp; done) | (simp [*]; done)), H', ⟨by first | omega | exact Nat.le_refl _⟩, ⟨by repeat (first | (with_reducible first | exact HB.out | apply below_alloc | apply pw_below_drewN | apply below_drew1) | exact HB.out)⟩⟩
          · replace c13 := Bool.eq_false_iff.mpr c13
            subst c13
            have H1 : (zoneinfolaw12_DesigsValidity.j0 k l0 l1 a2 a3 true) = some r := by rw [if_neg (show ¬ (false = true) by decide)] at H; exact H
            clear H
            have H := H1
            clear H1
            have H' := Aside0.mk H
            clear H
            go_wp2_with (first | (go_at_call 8; (with_reducible refine (zoneinfolaw12_awake.calls k  true _ A6.out).mono ?_); rintro e w16 ⟨rfl, hb⟩; have n0_ := Aside0.mk (below_step (by repeat (first | (with_reducible first | exact HB.out | apply below_alloc | apply pw_below_drewN | apply below_drew1) | exact HB.out)) hb); clear HB; have HB := n0_; clear n0_; (try clear hb); (try clear hb2); (try clear hk); (try clear hi)) | (go_at_call 10; (with_reducible refine (zoneinforef12_Valid.calls k _ _ l0 false _ ?side1 ?side2 A12.out).mono ?_); (case side1 => repeat (first | exact (Kd.C_below HR0.out HB.out) | (with_reducible refine Kd.C_alloc ?_ _) | (with_reducible refine Kd.C_drewN ?_ _) | (with_reducible refine Kd.C_drew ?_))); (case side2 => exact HC0.out); rintro e w' ⟨rfl, ⟨nd, rfl⟩⟩))
            go_meet
            case rel => exact ⟨_, (true), (by first | rfl | (simp; done) | (simp [*]; done)), H', ⟨by first | omega | exact Nat.le_refl _⟩, ⟨by repeat (first | (with_reducible first | exact HB.out | apply below_alloc | apply pw_below_drewN | apply below_drew1) | exact HB.out)⟩⟩
    · replace c7 := Bool.eq_false_iff.mpr c7
      subst c7
      have H1 : (zoneinfolaw12_DesigsValidity.j0 k l0 l1 a2 a3 true) = some r := by rw [if_neg (show ¬ (false = true) by decide)] at H; exact H
      clear H
      have H := H1
      clear H1
      have H' := Aside0.mk H
      clear H
      go_wp2_with (first | (go_at_call 8; (with_reducible refine (zoneinfolaw12_awake.calls k  false _ A6.out).mono ?_); rintro e w17 ⟨rfl, hb⟩; have n0_ := Aside0.mk (below_step (by repeat (first | (with_reducible first | exact HB.out | apply below_alloc | apply pw_below_drewN | apply below_drew1) | exact HB.out)) hb); clear HB; have HB := n0_; clear n0_; (try clear hb); (try clear hb2); (try clear hk); (try clear hi)))
      go_meet
      case rel => exact ⟨_, (true), (by first | rfl | (simp; done) | (simp [*]; done)), H', ⟨by first | omega | exact Nat.le_refl _⟩, ⟨by repeat (first | (with_reducible first | exact HB.out | apply below_alloc | apply pw_below_drewN | apply below_drew1) | exact HB.out)⟩⟩
  case rest =>
    clear HC5
    try clear c1
    try clear p2
    try clear c6
    try clear c7
    try clear c8
    try clear c8b0
    try clear c8b1
    try clear c10
    try clear c10b0
    try clear c10b1
    try clear c13
    obtain ⟨kq, x37_4, rfl, HA, HJ4, HB⟩ := hcut
    cases kq with
    | zero => exact absurd HA.out (by simp [zoneinfolaw12_DesigsValidity.j0])
    | succ kj4 =>
      have H := HA.out
      clear HA
      simp only [zoneinfolaw12_DesigsValidity.j0] at H
      by_cases c18 : x37_4 = true
      · subst c18
        have H1 : ((zoneinfolaw12_awake.f kj4).bind fun t251 => (some t251)) = some r := by rw [if_pos rfl] at H; exact H
        clear H
        have H := H1
        clear H1
        replace H := Option.bind_eq_some_iff.mp H
        obtain ⟨t251, A190, H⟩ := H
        replace H : (some t251) = some r := H
        have A19 := Aside0.mk A190
        clear A190
        obtain rfl := Option.some.inj H
        go_wp2_with (first | ((with_reducible refine gate_callee (f := 8) rfl ?_); refine goesL_ (some 38) rfl rfl Try.func8 (by kernel_rfl) rfl #[] rfl (by (try simp only [List.map_toArray, List.map_cons, List.map_nil]); first | done | rfl | (simp only [List.length_drop, List.length_take]; rfl)) ?_; (with_reducible refine (zoneinfolaw12_awake.calls kj4  t251 _ A19.out).mono ?_); rintro e w20 ⟨rfl, hb⟩; refine ⟨_, rfl, ?_⟩; have n0_ := Aside0.mk (below_step (by repeat (first | (with_reducible first | exact HB.out | apply below_alloc | apply pw_below_drewN | apply below_drew1) | exact HB.out)) hb); clear HB; have HB := n0_; clear n0_; (try clear hb); (try clear hb2); (try clear hk); (try clear hi)))
        go_ret
        exact ⟨by first | rfl | (simp [errW_none, errW_some] <;> rfl) | (simp [*, errW_none, errW_some] <;> rfl), by repeat (first | (with_reducible first | exact HB.out | apply below_alloc | apply pw_below_drewN | apply below_drew1) | exact HB.out)⟩
      · replace c18 := Bool.eq_false_iff.mpr c18
        subst c18
        have H1 : ((some (([] : List Int) : List Int)).bind fun y252 => (if y252.length + l0.length < 140737488355328 then ((some (y252 ++ l0 : List Int)).bind fun y255 => (if y255.length + l1.length < 140737488355328 then ((some (y255 ++ l1 : List Int)).bind fun y258 => (if 0 ≤ (wrap64 ((l0.length : Int) - 1)) then (if (wrap64 ((l0.length : Int) - 1)) ≤ (l0.length : Int) then ((some (l0.take ((wrap64 ((l0.length : Int) - 1)) : Int).toNat : List Int)).bind fun y261 => (if (y261.length : Int) = 0 then (zoneinfolaw12_DesigsValidity.j1 kj4 a2 a3 y258 y261 true) else (if 0 ≤ (wrap64 ((y261.length : Int) - 1)) then (if (wrap64 ((y261.length : Int) - 1)) < (y261.length : Int) then (zoneinfolaw12_DesigsValidity.j1 kj4 a2 a3 y258 y261 ((rd y261 (wrap64 ((y261.length : Int) - 1))) != 0)) else (none)) else (none)))) else (none)) else (none))) else (none))) else (none))) = some r := by rw [if_neg (show ¬ (false = true) by decide)] at H; exact H
        clear H
        have H := H1
        clear H1
        obtain ⟨y252, hy252⟩ : ∃ y_ : List Int, y_ = (([] : List Int)) := ⟨_, rfl⟩
        replace H : (if y252.length + l0.length < 140737488355328 then ((some (y252 ++ l0 : List Int)).bind fun y255 => (if y255.length + l1.length < 140737488355328 then ((some (y255 ++ l1 : List Int)).bind fun y258 => (if 0 ≤ (wrap64 ((l0.length : Int) - 1)) then (if (wrap64 ((l0.length : Int) - 1)) ≤ (l0.length : Int) then ((some (l0.take ((wrap64 ((l0.length : Int) - 1)) : Int).toNat : List Int)).bind fun y261 => (if (y261.length : Int) = 0 then (zoneinfolaw12_DesigsValidity.j1 kj4 a2 a3 y258 y261 true) else (if 0 ≤ (wrap64 ((y261.length : Int) - 1)) then (if (wrap64 ((y261.length : Int) - 1)) < (y261.length : Int) then (zoneinfolaw12_DesigsValidity.j1 kj4 a2 a3 y258 y261 ((rd y261 (wrap64 ((y261.length : Int) - 1))) != 0)) else (none)) else (none)))) else (none)) else (none))) else (none))) else (none)) = some r := by first | (rw [hy252]; with_reducible exact H) | (have H2_ := (Option.bind_some _ _).symm.trans H; rw [hy252]; with_reducible exact H2_) | (have H2_ := (Option.bind_some _ _).symm.trans H; with_reducible exact H2_) | with_reducible exact H | (rw [hy252]; exact H) | exact H
        have Ny252 := Aside0.mk hy252
        clear hy252
        by_cases c21 : y252.length + l0.length < 140737488355328
        · rw [if_pos c21] at H
          have LMc21 := Aside0.mk c21
          clear c21
          obtain ⟨y255, hy255⟩ : ∃ y_ : List Int, y_ = (y252 ++ l0) := ⟨_, rfl⟩
          replace H : (if y255.length + l1.length < 140737488355328 then ((some (y255 ++ l1 : List Int)).bind fun y258 => (if 0 ≤ (wrap64 ((l0.length : Int) - 1)) then (if (wrap64 ((l0.length : Int) - 1)) ≤ (l0.length : Int) then ((some (l0.take ((wrap64 ((l0.length : Int) - 1)) : Int).toNat : List Int)).bind fun y261 => (if (y261.length : Int) = 0 then (zoneinfolaw12_DesigsValidity.j1 kj4 a2 a3 y258 y261 true) else (if 0 ≤ (wrap64 ((y261.length : Int) - 1)) then (if (wrap64 ((y261.length : Int) - 1)) < (y261.length : Int) then (zoneinfolaw12_DesigsValidity.j1 kj4 a2 a3 y258 y261 ((rd y261 (wrap64 ((y261.length : Int) - 1))) != 0)) else (none)) else (none)))) else (none)) else (none))) else (none)) = some r := by first | (rw [hy255]; with_reducible exact H) | (have H2_ := (Option.bind_some _ _).symm.trans H; rw [hy255]; with_reducible exact H2_) | (have H2_ := (Option.bind_some _ _).symm.trans H; with_reducible exact H2_) | with_reducible exact H | (rw [hy255]; exact H) | exact H
          have Ny255 := Aside0.mk hy255
          clear hy255
          by_cases c22 : y255.length + l1.length < 140737488355328
          · rw [if_pos c22] at H
            have LMc22 := Aside0.mk c22
            clear c22
            obtain ⟨y258, hy258⟩ : ∃ y_ : List Int, y_ = (y255 ++ l1) := ⟨_, rfl⟩
            replace H : (if 0 ≤ (wrap64 ((l0.length : Int) - 1)) then (if (wrap64 ((l0.length : Int) - 1)) ≤ (l0.length : Int) then ((some (l0.take ((wrap64 ((l0.length : Int) - 1)) : Int).toNat : List Int)).bind fun y261 => (if (y261.length : Int) = 0 then (zoneinfolaw12_DesigsValidity.j1 kj4 a2 a3 y258 y261 true) else (if 0 ≤ (wrap64 ((y261.length : Int) - 1)) then (if (wrap64 ((y261.length : Int) - 1)) < (y261.length : Int) then (zoneinfolaw12_DesigsValidity.j1 kj4 a2 a3 y258 y261 ((rd y261 (wrap64 ((y261.length : Int) - 1))) != 0)) else (none)) else (none)))) else (none)) else (none)) = some r := by first | (rw [hy258]; with_reducible exact H) | (have H2_ := (Option.bind_some _ _).symm.trans H; rw [hy258]; with_reducible exact H2_) | (have H2_ := (Option.bind_some _ _).symm.trans H; with_reducible exact H2_) | with_reducible exact H | (rw [hy258]; exact H) | exact H
            have Ny258 := Aside0.mk hy258
            clear hy258
            obtain ⟨ji23, hji23⟩ : ∃ j_ : Int, (wrap64 ((l0.length : Int) - 1)) = j_ := ⟨_, rfl⟩
            replace H : (if 0 ≤ (ji23) then (if (ji23) ≤ (l0.length : Int) then ((some (l0.take ((ji23) : Int).toNat : List Int)).bind fun y261 => (if (y261.length : Int) = 0 then (zoneinfolaw12_DesigsValidity.j1 kj4 a2 a3 y258 y261 true) else (if 0 ≤ (wrap64 ((y261.length : Int) - 1)) then (if (wrap64 ((y261.length : Int) - 1)) < (y261.length : Int) then (zoneinfolaw12_DesigsValidity.j1 kj4 a2 a3 y258 y261 ((rd y261 (wrap64 ((y261.length : Int) - 1))) != 0)) else (none)) else (none)))) else (none)) else (none)) = some r := by first | (rw [hji23] at H; exact H) | (simp only [hji23] at H ⊢; exact H)
            have hji23w : (IntKind.i64.wrap ((l0.length : Int) - 1)) = ji23 := (i64_w _).trans hji23
            by_cases c24 : 0 ≤ (ji23)
            · rw [if_pos c24] at H
              have c24b0 := eq_true c24
              have c24b1 : decide (0 ≤ (ji23)) = true := decide_eq_true c24
              clear c24
              by_cases c25 : (ji23) ≤ (l0.length : Int)
              · rw [if_pos c25] at H
                have c25b0 := eq_true c25
                have c25b1 : decide ((ji23) ≤ (l0.length : Int)) = true := decide_eq_true c25
                clear c25
                obtain ⟨y261, hy261⟩ : ∃ y_ : List Int, y_ = (l0.take ((ji23) : Int).toNat) := ⟨_, rfl⟩
                replace H : (if (y261.length : Int) = 0 then (zoneinfolaw12_DesigsValidity.j1 kj4 a2 a3 y258 y261 true) else (if 0 ≤ (wrap64 ((y261.length : Int) - 1)) then (if (wrap64 ((y261.length : Int) - 1)) < (y261.length : Int) then (zoneinfolaw12_DesigsValidity.j1 kj4 a2 a3 y258 y261 ((rd y261 (wrap64 ((y261.length : Int) - 1))) != 0)) else (none)) else (none))) = some r := by first | (rw [hy261]; with_reducible exact H) | (have H2_ := (Option.bind_some _ _).symm.trans H; rw [hy261]; with_reducible exact H2_) | (have H2_ := (Option.bind_some _ _).symm.trans H; with_reducible exact H2_) | with_reducible exact H | (rw [hy261]; exact H) | exact H
                have Ny261 := Aside0.mk hy261
                clear hy261
                have HC26 := Aside0.mk H
                clear H
                go_upto_region 5 with (first | ((with_reducible refine gate_dst (N := 39) rfl ?_); (try (refine gate_guard (by rfl) ?_; dsimp only)); refine Kd.R_lit (Kd.int .u8) _ 5 ?hg (N := 39) ?hd (xs := ([] : List Int)) (inner := []) (ok := fun _ => True) (okp := fun _ => True) ?hr ?hp (fun _ hk => hk) trivial (Below.refl _ _) (Nat.le_refl _) (by simp) ?_; (case hd => rfl); (case hg => rfl); (case hr => first | (go_simp; done) | (go_simp; rfl)); (case hp => exact (Reps.none _ _)); intro v253 w27 ho28 hb hg_ hnew_; clear hg_ hnew_; (first | rw [← Ny252.out] at ho28 | (simp only [Int.reduceToNat] at ho28; rw [← Ny252.out] at ho28)); have n0_ := Aside0.mk (Kd.R_lower ho28 (below_size (by repeat (first | (with_reducible first | exact HB.out | apply below_alloc | apply pw_below_drewN | apply below_drew1) | exact HB.out)))); have n1_ := Aside0.mk (below_step (by repeat (first | (with_reducible first | exact HB.out | apply below_alloc | apply pw_below_drewN | apply below_drew1) | exact HB.out)) hb); clear HB; have HO254 := n0_; have HB := n1_; clear n0_ n1_; clear hb ho28) | ((with_reducible refine gate_builtin (b := .append) (xs := #[.tmp 39, .tmp 40]) rfl ?_); (try (refine gate_guard (by rfl) ?_; dsimp only)); at_builtin; refine Kd.R_append_rows (Kd.int .u8) (w0 := w) w.heap.size rfl (.tmp 39) (.tmp 40) 22 5 (.int .u8 0) 1 rfl Try.underlying22 info5 rfl (by decide) (by omega) v253 y252 l0 _ _ _ (fun _ => True) (fun _ => False) rfl rfl ?aO ?aR (fun _ _ h => h) (fun _ h => h.elim) ?aF ?aB ?aS ?aL ?_; (case aR => repeat (first | exact (Kd.C_below HR0.out HB.out) | (with_reducible refine Kd.C_alloc ?_ _) | (with_reducible refine Kd.C_drewN ?_ _) | (with_reducible refine Kd.C_drew ?_))); (case aB => exact (by repeat (first | (with_reducible first | exact HB.out | apply below_alloc | apply pw_below_drewN | apply below_drew1) | exact HB.out))); (case aF => exact (fun _ _ => trivial)); (case aO => exact (by (with_reducible repeat (first | apply Kd.R_alloc | apply Kd.R_drewN | apply Kd.R_drew)); exact HO254.out)); (case aS => exact (below_size (by repeat (first | (with_reducible first | exact HB.out | apply below_alloc | apply pw_below_drewN | apply below_drew1) | exact HB.out)))); (case aL => have := LMc21.out; omega); intro v256 w29 ho hb hg hat; rw [← Ny255.out] at ho; have n0_ := Aside0.mk (hb); have n1_ := Aside0.mk (ho); clear HB; clear HO254; have HB := n0_; have HO257 := n1_; clear n0_ n1_; clear ho hb hg hat) | ((with_reducible refine gate_builtin (b := .append) (xs := #[.tmp 41, .tmp 42]) rfl ?_); (try (refine gate_guard (by rfl) ?_; dsimp only)); at_builtin; refine Kd.R_append_rows (Kd.int .u8) (w0 := w) w.heap.size rfl (.tmp 41) (.tmp 42) 22 5 (.int .u8 0) 1 rfl Try.underlying22 info5 rfl (by decide) (by omega) v256 y255 l1 _ _ _ (fun _ => True) (fun _ => False) rfl rfl ?aO ?aR (fun _ _ h => h) (fun _ h => h.elim) ?aF ?aB ?aS ?aL ?_; (case aR => repeat (first | exact (Kd.C_below HR1.out HB.out) | (with_reducible refine Kd.C_alloc ?_ _) | (with_reducible refine Kd.C_drewN ?_ _) | (with_reducible refine Kd.C_drew ?_))); (case aB => exact (by repeat (first | (with_reducible first | exact HB.out | apply below_alloc | apply pw_below_drewN | apply below_drew1) | exact HB.out))); (case aF => exact (fun _ _ => trivial)); (case aO => exact (by (with_reducible repeat (first | apply Kd.R_alloc | apply Kd.R_drewN | apply Kd.R_drew)); exact HO257.out)); (case aS => exact (below_size (by repeat (first | (with_reducible first | exact HB.out | apply below_alloc | apply pw_below_drewN | apply below_drew1) | exact HB.out)))); (case aL => have := LMc22.out; omega); intro v259 w30 ho hb hg hat; rw [← Ny258.out] at ho; have n0_ := Aside0.mk (hb); have n1_ := Aside0.mk (ho); clear HB; clear HO257; have HB := n0_; have HO260 := n1_; clear n0_ n1_; clear ho hb hg hat; have q31 : ((ji23) : Int) ≤ ((l0.length : Int) : Int) := of_decide_eq_true (by first | (with_reducible assumption) | assumption); obtain ⟨i031, hi031, _, hsz31, _⟩ := info_parts info5; have hroom31 : l0.length ≤ c0 := HC0.out; have hC31 : Kd.C (Kd.int .u8) _ A0 l0.length l0 := HR0.out; have hcut31 := cut_to (P := Try.prog) 22 5 .i64 Try.underlying22 hi031 A0 l0.length c0 (ji23) (of_decide_eq_true (by first | (with_reducible assumption) | assumption)) q31 hroom31; have hr31 := Kd.C_take (m := ((ji23) : Int).toNat) hC31 (by omega); have hy31 : y261.length = ((ji23) : Int).toNat := (by rw [Ny261.out, List.length_take]; omega); rw [← Ny261.out] at hr31; rw [← hy31] at hcut31; have HR264 := Aside0.mk hr31; have HC264 := Aside0.mk (show y261.length ≤ c0 from by omega); clear hr31 hC31 hroom31 hi031 hsz31; have KY31 := Aside0.mk hy31; clear hy31; replace q31 := eq_true q31))
                (try simp only [Act.put, List.setIfInBounds_toArray, List.set_cons_zero, List.set_cons_succ])
                go_cut [11] (fun v11 wc => ∃ (kq : Nat) (x11_25 : Bool), v11 = .bool x11_25 ∧ Aside0 (zoneinfolaw12_DesigsValidity.j1 kq a2 a3 y258 y261 x11_25 = some r) ∧ Aside0 (kq ≤ kj4) ∧ Aside0 (Kd.R (Kd.int .u8) 5 wc w.heap.size (fun _ => True) v259 y258) ∧ Aside0 (Below w.heap.size w wc))
                case first =>
                  have H := HC26.out
                  clear HC26
                  by_cases c32 : (y261.length : Int) = 0
                  · rw [if_pos c32] at H
                    have c32b0 : ((y261.length : Int) == 0) = true := beq_iff_eq.mpr c32
                    have c32b1 : ((y261.length : Int) != 0) = false := bne_eq_false_iff_eq.mpr c32
                    clear c32
                    (first | rw [c32b0] | (simp only [i64_w, i32_w]; rw [c32b0]) | skip)
                    have H' := Aside0.mk H
                    clear H
                    go_wp2
                    go_meet
                    case rel => exact ⟨_, (true), (by first | rfl | (simp; done) | (simp [*]; done)), H', ⟨by have := HJ4.out; first | omega | exact Nat.le_refl _⟩, ⟨by (with_reducible repeat (first | apply Kd.R_alloc | apply Kd.R_drewN | apply Kd.R_drew)); exact HO260.out⟩, ⟨by repeat (first | (with_reducible first | exact HB.out | apply below_alloc | apply pw_below_drewN | apply below_drew1) | exact HB.out)⟩⟩
                  · rw [if_neg c32] at H
                    have c32b0 : ((y261.length : Int) == 0) = false := beq_eq_false_iff_ne.mpr c32
                    have c32b1 : ((y261.length : Int) != 0) = true := bne_iff_ne.mpr c32
                    have c32b2 : ¬ (y261 = []) := fun h_ => c32 (by rw [h_]; rfl)
                    (first | rw [c32b0] | (simp only [i64_w, i32_w]; rw [c32b0]) | skip)
                    obtain ⟨ji33, hji33⟩ : ∃ j_ : Int, (wrap64 ((y261.length : Int) - 1)) = j_ := ⟨_, rfl⟩
                    replace H : (if 0 ≤ (ji33) then (if (ji33) < (y261.length : Int) then (zoneinfolaw12_DesigsValidity.j1 kj4 a2 a3 y258 y261 ((rd y261 (ji33)) != 0)) else (none)) else (none)) = some r := by first | (rw [hji33] at H; exact H) | (simp only [hji33] at H ⊢; exact H)
                    have hji33w : (IntKind.i64.wrap ((y261.length : Int) - 1)) = ji33 := (i64_w _).trans hji33
                    by_cases c34 : 0 ≤ (ji33)
                    · rw [if_pos c34] at H
                      have c34b0 : decide (0 ≤ (ji33)) = true := decide_eq_true c34
                      clear c34
                      by_cases c35 : (ji33) < (y261.length : Int)
                      · rw [if_pos c35] at H
                        have c35b0 : decide ((ji33) < (y261.length : Int)) = true := decide_eq_true c35
                        clear c35
                        have H' := Aside0.mk H
                        clear H
                        have p265 : 0 ≤ ((ji33) : Int) := of_decide_eq_true (by first | (with_reducible assumption) | assumption)
                        have q265 : (ji33) < (y261.length : Int) := of_decide_eq_true (by first | (with_reducible assumption) | assumption)
                        obtain ⟨ad265, e265, hx265_0⟩ := Kd.at_int HR264.out (ji33) p265 q265
                        cases e265
                        replace hx265_0 := (HB.out.cell (World.block_lt_of_cell? w _ hx265_0)).trans hx265_0
                        replace p265 := eq_true p265
                        replace q265 := eq_true q265
                        go_wp2
                        go_meet
                        case rel => exact ⟨_, (((rd y261 (ji33)) != 0)), (by first | rfl | (simp; done) | (simp only [← hji33] <;> (first | rfl | simp)) | (simp [*]; done)), H', ⟨by have := HJ4.out; first | omega | exact Nat.le_refl _⟩, ⟨by (with_reducible repeat (first | apply Kd.R_alloc | apply Kd.R_drewN | apply Kd.R_drew)); exact HO260.out⟩, ⟨by repeat (first | (with_reducible first | exact HB.out | apply below_alloc | apply pw_below_drewN | apply below_drew1) | exact HB.out)⟩⟩
                      · rw [if_neg c35] at H
                        exact absurd H (by simp)
                    · rw [if_neg c34] at H
                      exact absurd H (by simp)
                case rest =>
                  clear HC26
                  try clear c1
                  try clear c2
                  try clear p2
                  try clear q2
                  try clear hx2
                  try clear c3
                  try clear q3
                  try clear c6
                  try clear p6
                  try clear c7
                  try clear c8
                  try clear c8b0
                  try clear c8b1
                  try clear c10
                  try clear c10b0
                  try clear c10b1
                  try clear c13
                  try clear c18
                  try clear c21
                  try clear c22
                  try clear c24
                  try clear c24b0
                  try clear c24b1
                  try clear c25
                  try clear c25b0
                  try clear c25b1
                  try clear p26
                  try clear q26
                  try clear hx26
                  try clear q31
                  try clear c32
                  try clear c32b0
                  try clear c32b1
                  try clear c32b2
                  try clear c34
                  try clear c34b0
                  try clear c35
                  try clear c35b0
                  try clear hx265_0
                  try clear p2
                  try clear p265
                  try clear q265
                  try clear q31
                  obtain ⟨kq, x11_25, rfl, HA, HJ25, HO_9, HB⟩ := hcut
                  cases kq with
                  | zero => exact absurd HA.out (by simp [zoneinfolaw12_DesigsValidity.j1])
                  | succ kj25 =>
                    have H := HA.out
                    clear HA
                    simp only [zoneinfolaw12_DesigsValidity.j1] at H
                    obtain ⟨y266, hy266⟩ : ∃ y_ : List Int, y_ = (([] : List Int)) := ⟨_, rfl⟩
                    replace H : (if y266.length + y258.length < 140737488355328 then ((some (y266 ++ y258 : List Int)).bind fun y269 => (if (y269.length : Int) = 0 then (none) else (if 0 ≤ (Int.tmod (wrap64 (a2)) (y269.length : Int)) then (if (Int.tmod (wrap64 (a2)) (y269.length : Int)) < (y269.length : Int) then ((some (y269.set ((Int.tmod (wrap64 (a2)) (y269.length : Int)) : Int).toNat a3 : List Int)).bind fun y272 => (if a3 = 0 then (zoneinfolaw12_DesigsValidity.j2 kj25 a3 y258 y261 x11_25 y272 (Int.tmod (wrap64 (a2)) (y269.length : Int)) true) else ((zoneinforef12_Allowed.f a3).bind fun t273 => (zoneinfolaw12_DesigsValidity.j2 kj25 a3 y258 y261 x11_25 y272 (Int.tmod (wrap64 (a2)) (y269.length : Int)) t273)))) else (none)) else (none)))) else (none)) = some r := by first | (rw [hy266]; with_reducible exact H) | (have H2_ := (Option.bind_some _ _).symm.trans H; rw [hy266]; with_reducible exact H2_) | (have H2_ := (Option.bind_some _ _).symm.trans H; with_reducible exact H2_) | with_reducible exact H | (rw [hy266]; exact H) | exact H
                    have Ny266 := Aside0.mk hy266
                    clear hy266
                    by_cases c36 : y266.length + y258.length < 140737488355328
                    · rw [if_pos c36] at H
                      have LMc36 := Aside0.mk c36
                      clear c36
                      obtain ⟨y269, hy269⟩ : ∃ y_ : List Int, y_ = (y266 ++ y258) := ⟨_, rfl⟩
                      replace H : (if (y269.length : Int) = 0 then (none) else (if 0 ≤ (Int.tmod (wrap64 (a2)) (y269.length : Int)) then (if (Int.tmod (wrap64 (a2)) (y269.length : Int)) < (y269.length : Int) then ((some (y269.set ((Int.tmod (wrap64 (a2)) (y269.length : Int)) : Int).toNat a3 : List Int)).bind fun y272 => (if a3 = 0 then (zoneinfolaw12_DesigsValidity.j2 kj25 a3 y258 y261 x11_25 y272 (Int.tmod (wrap64 (a2)) (y269.length : Int)) true) else ((zoneinforef12_Allowed.f a3).bind fun t273 => (zoneinfolaw12_DesigsValidity.j2 kj25 a3 y258 y261 x11_25 y272 (Int.tmod (wrap64 (a2)) (y269.length : Int)) t273)))) else (none)) else (none))) = some r := by first | (rw [hy269]; with_reducible exact H) | (have H2_ := (Option.bind_some _ _).symm.trans H; rw [hy269]; with_reducible exact H2_) | (have H2_ := (Option.bind_some _ _).symm.trans H; with_reducible exact H2_) | with_reducible exact H | (rw [hy269]; exact H) | exact H
                      have Ny269 := Aside0.mk hy269
                      clear hy269
                      by_cases c37 : (y269.length : Int) = 0
                      · rw [if_pos c37] at H
                        exact absurd H (by simp)
                      · rw [if_neg c37] at H
                        have c37b0 : ((y269.length : Int) == 0) = false := beq_eq_false_iff_ne.mpr c37
                        have c37b1 : ((y269.length : Int) != 0) = true := bne_iff_ne.mpr c37
                        have c37b2 : ¬ (y269 = []) := fun h_ => c37 (by rw [h_]; rfl)
                        obtain ⟨ji38, hji38⟩ : ∃ j_ : Int, (Int.tmod (wrap64 (a2)) (y269.length : Int)) = j_ := ⟨_, rfl⟩
                        replace H : (if 0 ≤ (ji38) then (if (ji38) < (y269.length : Int) then ((some (y269.set ((ji38) : Int).toNat a3 : List Int)).bind fun y272 => (if a3 = 0 then (zoneinfolaw12_DesigsValidity.j2 kj25 a3 y258 y261 x11_25 y272 ji38 true) else ((zoneinforef12_Allowed.f a3).bind fun t273 => (zoneinfolaw12_DesigsValidity.j2 kj25 a3 y258 y261 x11_25 y272 ji38 t273)))) else (none)) else (none)) = some r := by first | (rw [hji38] at H; exact H) | (simp only [hji38] at H ⊢; exact H)
                        by_cases c39 : 0 ≤ (ji38)
                        · rw [if_pos c39] at H
                          have c39b0 : decide (0 ≤ (ji38)) = true := decide_eq_true c39
                          clear c39
                          by_cases c40 : (ji38) < (y269.length : Int)
                          · rw [if_pos c40] at H
                            have c40b0 : decide ((ji38) < (y269.length : Int)) = true := decide_eq_true c40
                            clear c40
                            obtain ⟨y272, hy272⟩ : ∃ y_ : List Int, y_ = (y269.set ((ji38) : Int).toNat a3) := ⟨_, rfl⟩
                            replace H : (if a3 = 0 then (zoneinfolaw12_DesigsValidity.j2 kj25 a3 y258 y261 x11_25 y272 ji38 true) else ((zoneinforef12_Allowed.f a3).bind fun t273 => (zoneinfolaw12_DesigsValidity.j2 kj25 a3 y258 y261 x11_25 y272 ji38 t273))) = some r := by first | (rw [hy272]; with_reducible exact H) | (have H2_ := (Option.bind_some _ _).symm.trans H; rw [hy272]; with_reducible exact H2_) | (have H2_ := (Option.bind_some _ _).symm.trans H; with_reducible exact H2_) | with_reducible exact H | (rw [hy272]; exact H) | exact H
                            have Ny272 := Aside0.mk hy272
                            clear hy272
                            have HC42 := Aside0.mk H
                            clear H
                            go_upto_region 9 with (first | ((with_reducible refine gate_dst (N := 61) rfl ?_); (try (refine gate_guard (by rfl) ?_; dsimp only)); refine Kd.R_lit (Kd.int .u8) _ 5 ?hg (N := 61) ?hd (xs := ([] : List Int)) (inner := []) (ok := fun _ => True) (okp := fun _ => True) ?hr ?hp (fun _ hk => hk) trivial (Below.refl _ _) (Nat.le_refl _) (by simp) ?_; (case hd => rfl); (case hg => rfl); (case hr => first | (go_simp; done) | (go_simp; rfl)); (case hp => exact (Reps.none _ _)); intro v267 w43 ho44 hb hg_ hnew_; clear hg_ hnew_; (first | rw [← Ny266.out] at ho44 | (simp only [Int.reduceToNat] at ho44; rw [← Ny266.out] at ho44)); have n0_ := Aside0.mk (Kd.R_elder' (by (with_reducible repeat (first | apply Kd.R_alloc | apply Kd.R_drewN | apply Kd.R_drew)); exact HO_9.out) (Kd.R_base ho44) hb); have n1_ := Aside0.mk (Kd.R_lower (Kd.R_new' ho44 (Kd.R_lt (by (with_reducible repeat (first | apply Kd.R_alloc | apply Kd.R_drewN | apply Kd.R_drew)); exact HO_9.out))) (below_size (by repeat (first | (with_reducible first | exact HB.out | apply below_alloc | apply pw_below_drewN | apply below_drew1) | exact HB.out)))); have n2_ := Aside0.mk (below_step (by repeat (first | (with_reducible first | exact HB.out | apply below_alloc | apply pw_below_drewN | apply below_drew1) | exact HB.out)) hb); clear HO_9; clear HB; have HO_9 := n0_; have HO268 := n1_; have HB := n2_; clear n0_ n1_ n2_; clear hb ho44; obtain ⟨Ao46, co46, eo46⟩ := Kd.R_slice HO_9.out; subst eo46) | ((with_reducible refine gate_builtin (b := .append) (xs := #[.tmp 61, .tmp 62]) rfl ?_); (try (refine gate_guard (by rfl) ?_; dsimp only)); at_builtin; refine Kd.R_append_rows (Kd.int .u8) (w0 := w) w.heap.size rfl (.tmp 61) (.tmp 62) 22 5 (.int .u8 0) 1 rfl Try.underlying22 info5 rfl (by decide) (by omega) v267 y266 y258 _ _ _ (fun k_ => some k_ ≠ (.slice Ao46 y258.length co46 : Value).ownBlock) (fun _ => False) rfl rfl ?aO ?aR (fun _ _ h => h) (fun _ h => h.elim) ?aF ?aB ?aS ?aL ?_; (case aR => repeat (first | exact (Kd.R_reads' HO_9.out).2.2 | (with_reducible refine Kd.C_alloc ?_ _) | (with_reducible refine Kd.C_drewN ?_ _) | (with_reducible refine Kd.C_drew ?_))); (case aB => exact (by repeat (first | (with_reducible first | exact HB.out | apply below_alloc | apply pw_below_drewN | apply below_drew1) | exact HB.out))); (case aF => exact (fun k_ hk => Kd.fresh' (Kd.R_lt (by (with_reducible repeat (first | apply Kd.R_alloc | apply Kd.R_drewN | apply Kd.R_drew)); exact HO_9.out)) k_ hk)); (case aO => exact (by (with_reducible repeat (first | apply Kd.R_alloc | apply Kd.R_drewN | apply Kd.R_drew)); exact Kd.R_mono HO268.out (fun _ hk => hk.2))); (case aS => exact (below_size (by repeat (first | (with_reducible first | exact HB.out | apply below_alloc | apply pw_below_drewN | apply below_drew1) | exact HB.out)))); (case aL => have := LMc36.out; omega); intro v270 w45 ho hb hg hat; rw [← Ny269.out] at ho; have n0_ := Aside0.mk (Kd.R_after (ok := (fun _ => True)) (by (with_reducible repeat (first | apply Kd.R_alloc | apply Kd.R_drewN | apply Kd.R_drew)); exact HO_9.out) hg hat); have n1_ := Aside0.mk (hb); have n2_ := Aside0.mk (ho); clear HO_9; clear HB; clear HO268; have HO_9 := n0_; have HB := n1_; have HO271 := n2_; clear n0_ n1_ n2_; clear ho hb hg hat; obtain ⟨Ao47, co47, eo47⟩ := Kd.R_slice HO271.out; subst eo47; have p41 : 0 ≤ ((ji38) : Int) := of_decide_eq_true (by first | (with_reducible assumption) | assumption); have q41 : ((ji38) : Int) < ((y269.length : Int) : Int) := of_decide_eq_true (by first | (with_reducible assumption) | assumption); obtain ⟨go41, co41, eo41, gb41, gl41, cl41, HG41⟩ := Kd.R_form HO271.out (by omega); (first | cases eo41 | (injection eo41 with ea_ en_ ec_; (first | subst ea_ | (injection ea_ with ea_; subst ea_)); subst ec_; clear en_)); have GB41 := Aside0.mk gb41; have GG41 := Aside0.mk HG41; clear gb41 gl41 HG41; obtain ⟨hx41_0, hf41_0⟩ := Kd.R_celln 0 HO271.out ((ji38) : Int) p41 q41; replace p41 := eq_true p41; replace q41 := eq_true q41; obtain ⟨hy48_, hz48_⟩ := Kd.R_celln 0 HO271.out ((ji38) : Int) (of_decide_eq_true (by first | (with_reducible assumption) | assumption)) (of_decide_eq_true (by first | (with_reducible assumption) | assumption)); have HP48 := Kd.R_putg HO271.out ((ji38) : Int) a3) | ((with_reducible refine gate_store (t := 5) (p := 72) rfl ?_); refine store_event (t := 5) (p := 72) (v := ?vo_w49) (w1 := (w45.setCell ⟨go41, ((ji38) : Int).toNat, none⟩ (.int .u8 a3))) ?hg ?ho ?hn ?hr ?_; (case ho => rfl); (case hg => rfl); (case hn => rfl); (case hr => first | (go_simp; done) | (go_simp; rfl)); intro w49 hw; have hg : w45.grownBy w49 (some go41) := (by rw [hw]; exact HP48.2); have hp_ : Kd.R (Kd.int .u8) 5 w49 w.heap.size (fun k_ => some k_ ≠ (.slice Ao46 y258.length co46 : Value).ownBlock) (.slice (some ⟨go41, 0, none⟩) y269.length co47) y272 := (by rw [hw, Ny272.out]; exact HP48.1); clear HP48; have n0_ := Aside0.mk (Kd.R_after (v := (.slice (some ⟨go41, 0, none⟩) y269.length co47)) (v1 := (.slice (some ⟨go41, 0, none⟩) y269.length co47)) (ok := (fun _ => True)) (by (with_reducible repeat (first | apply Kd.R_alloc | apply Kd.R_drewN | apply Kd.R_drew)); exact HO_9.out) hg (.inl rfl)); have n1_ := Aside0.mk (hp_); have n2_ := Aside0.mk ((by rw [hw]; exact below_set (HB.out) GB41.out : Below w.heap.size w w49)); clear HO_9; clear HO271; clear HB; have HO_9 := n0_; have HO271 := n1_; have HB := n2_; clear n0_ n1_ n2_; clear hg hw hp_))
                            (try simp only [Act.put, List.setIfInBounds_toArray, List.set_cons_zero, List.set_cons_succ])
                            go_cut [14] (fun v14 wc => ∃ (kq : Nat) (x14_41 : Bool), v14 = .bool x14_41 ∧ Aside0 (zoneinfolaw12_DesigsValidity.j2 kq a3 y258 y261 x11_25 y272 ji38 x14_41 = some r) ∧ Aside0 (kq ≤ kj25) ∧ Aside0 (Kd.R (Kd.int .u8) 5 wc w.heap.size (fun k_ => some k_ ≠ ((.slice (some ⟨go41, 0, none⟩) y269.length co47) : Value).ownBlock) (.slice Ao46 y258.length co46) y258) ∧ Aside0 (Kd.R (Kd.int .u8) 5 wc w.heap.size (fun k_ => some k_ ≠ ((.slice Ao46 y258.length co46) : Value).ownBlock) (.slice (some ⟨go41, 0, none⟩) y269.length co47) y272) ∧ Aside0 (Below w.heap.size w wc))
                            case first =>
                              have H := HC42.out
                              clear HC42
                              by_cases c50 : a3 = 0
                              · rw [if_pos c50] at H
                                have c50b0 : (a3 == 0) = true := beq_iff_eq.mpr c50
                                have c50b1 : (a3 != 0) = false := bne_eq_false_iff_eq.mpr c50
                                clear c50
                                (first | rw [c50b0] | (simp only [i64_w, i32_w]; rw [c50b0]) | skip)
                                have H' := Aside0.mk H
                                clear H
                                go_wp2
                                go_meet
                                case rel => exact ⟨_, (true), (by first | rfl | (simp; done) | (simp [*]; done)), H', ⟨by have := HJ4.out; have := HJ25.out; first | omega | exact Nat.le_refl _⟩, ⟨by (with_reducible repeat (first | apply Kd.R_alloc | apply Kd.R_drewN | apply Kd.R_drew)); exact Kd.R_mono HO_9.out (fun _ hk => hk.2)⟩, ⟨by (with_reducible repeat (first | apply Kd.R_alloc | apply Kd.R_drewN | apply Kd.R_drew)); exact HO271.out⟩, ⟨by repeat (first | (with_reducible first | exact HB.out | apply below_alloc | apply pw_below_drewN | apply below_drew1) | exact HB.out)⟩⟩
                              · rw [if_neg c50] at H
                                have c50b0 : (a3 == 0) = false := beq_eq_false_iff_ne.mpr c50
                                have c50b1 : (a3 != 0) = true := bne_iff_ne.mpr c50
                                (first | rw [c50b0] | (simp only [i64_w, i32_w]; rw [c50b0]) | skip)
                                replace H := Option.bind_eq_some_iff.mp H
                                obtain ⟨t273, A510, H⟩ := H
                                replace H : (zoneinfolaw12_DesigsValidity.j2 kj25 a3 y258 y261 x11_25 y272 ji38 t273) = some r := H
                                have A51 := Aside0.mk A510
                                clear A510
                                have H' := Aside0.mk H
                                clear H
                                go_wp2_with (first | (go_at_call 19; (with_reducible refine (zoneinforef12_Allowed.calls a3 t273 _ A51.out).mono ?_); rintro e w' ⟨rfl, ⟨nd, rfl⟩⟩))
                                go_meet
                                case rel => exact ⟨_, (t273), (by first | rfl | (simp; done) | (simp [*]; done)), H', ⟨by have := HJ4.out; have := HJ25.out; first | omega | exact Nat.le_refl _⟩, ⟨by (with_reducible repeat (first | apply Kd.R_alloc | apply Kd.R_drewN | apply Kd.R_drew)); exact Kd.R_mono HO_9.out (fun _ hk => hk.2)⟩, ⟨by (with_reducible repeat (first | apply Kd.R_alloc | apply Kd.R_drewN | apply Kd.R_drew)); exact HO271.out⟩, ⟨by repeat (first | (with_reducible first | exact HB.out | apply below_alloc | apply pw_below_drewN | apply below_drew1) | exact HB.out)⟩⟩
                            case rest =>
                              clear HC42
                              try clear c1
                              try clear c2
                              try clear p2
                              try clear q2
                              try clear hx2
                              try clear c3
                              try clear q3
                              try clear c4
                              try clear p4
                              try clear q4
                              try clear hx4
                              try clear hf4
                              try clear c5
                              try clear c6
                              try clear p6
                              try clear c7
                              try clear c8
                              try clear c8b0
                              try clear c8b1
                              try clear c10
                              try clear c10b0
                              try clear c10b1
                              try clear c13
                              try clear c18
                              try clear c21
                              try clear c22
                              try clear c24
                              try clear c24b0
                              try clear c24b1
                              try clear c25
                              try clear c25b0
                              try clear c25b1
                              try clear p26
                              try clear q26
                              try clear hx26
                              try clear q31
                              try clear c32
                              try clear c32b0
                              try clear c32b1
                              try clear c32b2
                              try clear c34
                              try clear c34b0
                              try clear c35
                              try clear c35b0
                              try clear c36
                              try clear c37
                              try clear c37b0
                              try clear c37b1
                              try clear c37b2
                              try clear c39
                              try clear c39b0
                              try clear c40
                              try clear c40b0
                              try clear p41
                              try clear q41
                              try clear hx41
                              try clear hf41
                              try clear c50
                              try clear c50b0
                              try clear c50b1
                              try clear hx265_0
                              try clear hx41_0
                              try clear p2
                              try clear p26
                              try clear p265
                              try clear p41
                              try clear p6
                              try clear q2
                              try clear q26
                              try clear q265
                              try clear q3
                              try clear q31
                              try clear q41
                              obtain ⟨kq, x14_41, rfl, HA, HJ41, HO_9, HO_12, HB⟩ := hcut
                              have hl12_41 := (Kd.R_reads' HO_12.out).1
                              rw [hl12_41] at HO_12
                              (try simp only [hl12_41])
                              (try simp only [hl12_41] at HO_9)
                              cases kq with
                              | zero => exact absurd HA.out (by simp [zoneinfolaw12_DesigsValidity.j2])
                              | succ kj41 =>
                                have H := HA.out
                                clear HA
                                simp only [zoneinfolaw12_DesigsValidity.j2] at H
                                have HC52 := Aside0.mk H
                                clear H
                                go_upto_if 80 with (fail)
                                go_cut [15] (fun v15 wc => ∃ (kq : Nat) (x15_51 : Int), v15 = .int .i64 x15_51 ∧ Aside0 (zoneinfolaw12_DesigsValidity.j3 kq y258 y261 x11_25 y272 x15_51 = some r) ∧ Aside0 (kq ≤ kj41) ∧ Aside0 (Kd.R (Kd.int .u8) 5 wc w.heap.size (fun k_ => some k_ ≠ ((.slice (some ⟨go41, 0, none⟩) y272.length co47) : Value).ownBlock) (.slice Ao46 y258.length co46) y258) ∧ Aside0 (Kd.R (Kd.int .u8) 5 wc w.heap.size (fun k_ => some k_ ≠ ((.slice Ao46 y258.length co46) : Value).ownBlock) (.slice (some ⟨go41, 0, none⟩) y272.length co47) y272) ∧ Aside0 (Below w.heap.size w wc))
                                case first =>
                                  have H := HC52.out
                                  clear HC52
                                  by_cases c53 : x14_41 = true
                                  · subst c53
                                    have H1 : (if ji38 = (wrap64 ((y272.length : Int) - 1)) then (if a3 = 0 then (zoneinfolaw12_DesigsValidity.j3 kj41 y258 y261 x11_25 y272 (-1)) else (zoneinfolaw12_DesigsValidity.j3 kj41 y258 y261 x11_25 y272 (y272.length : Int))) else (zoneinfolaw12_DesigsValidity.j3 kj41 y258 y261 x11_25 y272 (-1))) = some r := by rw [if_pos rfl] at H; exact H
                                    clear H
                                    have H := H1
                                    clear H1
                                    by_cases c54 : ji38 = (wrap64 ((y272.length : Int) - 1))
                                    · rw [if_pos c54] at H
                                      have c54b0 : (ji38 == (wrap64 ((y272.length : Int) - 1))) = true := beq_iff_eq.mpr c54
                                      have c54b1 : (ji38 != (wrap64 ((y272.length : Int) - 1))) = false := bne_eq_false_iff_eq.mpr c54
                                      clear c54
                                      (first | rw [c54b0] | (simp only [i64_w, i32_w]; rw [c54b0]) | skip)
                                      by_cases c55 : a3 = 0
                                      · rw [if_pos c55] at H
                                        have c55b0 : (a3 == 0) = true := beq_iff_eq.mpr c55
                                        have c55b1 : (a3 != 0) = false := bne_eq_false_iff_eq.mpr c55
                                        clear c55
                                        have H' := Aside0.mk H
                                        clear H
                                        go_wp2
                                        go_meet
                                        case rel => exact ⟨_, ((-1)), (by first | rfl | (simp; done) | (simp [*]; done)), H', ⟨by have := HJ4.out; have := HJ25.out; have := HJ41.out; first | omega | exact Nat.le_refl _⟩, ⟨by (try simp only [hl12_41]); (with_reducible repeat (first | apply Kd.R_alloc | apply Kd.R_drewN | apply Kd.R_drew)); exact HO_9.out⟩, ⟨by (try simp only [hl12_41]); (with_reducible repeat (first | apply Kd.R_alloc | apply Kd.R_drewN | apply Kd.R_drew)); exact HO_12.out⟩, ⟨by repeat (first | (with_reducible first | exact HB.out | apply below_alloc | apply pw_below_drewN | apply below_drew1) | exact HB.out)⟩⟩
                                      · rw [if_neg c55] at H
                                        have c55b0 : (a3 == 0) = false := beq_eq_false_iff_ne.mpr c55
                                        have c55b1 : (a3 != 0) = true := bne_iff_ne.mpr c55
                                        have H' := Aside0.mk H
                                        clear H
                                        go_wp2
                                        go_meet
                                        case rel => exact ⟨_, ((y272.length : Int)), (by first | rfl | (simp; done) | (simp [*]; done)), H', ⟨by have := HJ4.out; have := HJ25.out; have := HJ41.out; first | omega | exact Nat.le_refl _⟩, ⟨by (try simp only [hl12_41]); (with_reducible repeat (first | apply Kd.R_alloc | apply Kd.R_drewN | apply Kd.R_drew)); exact HO_9.out⟩, ⟨by (try simp only [hl12_41]); (with_reducible repeat (first | apply Kd.R_alloc | apply Kd.R_drewN | apply Kd.R_drew)); exact HO_12.out⟩, ⟨by repeat (first | (with_reducible first | exact HB.out | apply below_alloc | apply pw_below_drewN | apply below_drew1) | exact HB.out)⟩⟩
                                    · rw [if_neg c54] at H
                                      have c54b0 : (ji38 == (wrap64 ((y272.length : Int) - 1))) = false := beq_eq_false_iff_ne.mpr c54
                                      have c54b1 : (ji38 != (wrap64 ((y272.length : Int) - 1))) = true := bne_iff_ne.mpr c54
                                      (first | rw [c54b0] | (simp only [i64_w, i32_w]; rw [c54b0]) | skip)
                                      have H' := Aside0.mk H
                                      clear H
                                      go_wp2
                                      go_meet
                                      case rel => exact ⟨_, ((-1)), (by first | rfl | (simp; done) | (simp [*]; done)), H', ⟨by have := HJ4.out; have := HJ25.out; have := HJ41.out; first | omega | exact Nat.le_refl _⟩, ⟨by (try simp only [hl12_41]); (with_reducible repeat (first | apply Kd.R_alloc | apply Kd.R_drewN | apply Kd.R_drew)); exact HO_9.out⟩, ⟨by (try simp only [hl12_41]); (with_reducible repeat (first | apply Kd.R_alloc | apply Kd.R_drewN | apply Kd.R_drew)); exact HO_12.out⟩, ⟨by repeat (first | (with_reducible first | exact HB.out | apply below_alloc | apply pw_below_drewN | apply below_drew1) | exact HB.out)⟩⟩
                                  · replace c53 := Bool.eq_false_iff.mpr c53
                                    subst c53
                                    have H1 : (zoneinfolaw12_DesigsValidity.j3 kj41 y258 y261 x11_25 y272 ji38) = some r := by rw [if_neg (show ¬ (false = true) by decide)] at H; exact H
                                    clear H
                                    have H := H1
                                    clear H1
                                    have H' := Aside0.mk H
                                    clear H
                                    go_wp2
                                    go_meet
                                    case rel => exact ⟨_, (ji38), (by first | rfl | (simp; done) | (simp only [← hji38] <;> (first | rfl | simp)) | (simp [*]; done)), H', ⟨by have := HJ4.out; have := HJ25.out; have := HJ41.out; first | omega | exact Nat.le_refl _⟩, ⟨by (try simp only [hl12_41]); (with_reducible repeat (first | apply Kd.R_alloc | apply Kd.R_drewN | apply Kd.R_drew)); exact HO_9.out⟩, ⟨by (try simp only [hl12_41]); (with_reducible repeat (first | apply Kd.R_alloc | apply Kd.R_drewN | apply Kd.R_drew)); exact HO_12.out⟩, ⟨by repeat (first | (with_reducible first | exact HB.out | apply below_alloc | apply pw_below_drewN | apply below_drew1) | exact HB.out)⟩⟩
                                case rest =>
                                  clear HC52
                                  try clear c1
                                  try clear c2
                                  try clear p2
                                  try clear q2
                                  try clear hx2
                                  try clear c3
                                  try clear q3
                                  try clear c4
                                  try clear p4
                                  try clear q4
                                  try clear hx4
                                  try clear hf4
                                  try clear c5
                                  try clear c6
                                  try clear p6
                                  try clear c7
                                  try clear c8
                                  try clear c8b0
                                  try clear c8b1
                                  try clear c10
                                  try clear c10b0
                                  try clear c10b1
                                  try clear c13
                                  try clear c18
                                  try clear c21
                                  try clear c22
                                  try clear c24
                                  try clear c24b0
                                  try clear c24b1
                                  try clear c25
                                  try clear c25b0
                                  try clear c25b1
                                  try clear p26
                                  try clear q26
                                  try clear hx26
                                  try clear q31
                                  try clear c32
                                  try clear c32b0
                                  try clear c32b1
                                  try clear c32b2
                                  try clear c34
                                  try clear c34b0
                                  try clear c35
                                  try clear c35b0
                                  try clear c36
                                  try clear c37
                                  try clear c37b0
                                  try clear c37b1
                                  try clear c37b2
                                  try clear c39
                                  try clear c39b0
                                  try clear c40
                                  try clear c40b0
                                  try clear p41
                                  try clear q41
                                  try clear hx41
                                  try clear hf41
                                  try clear c50
                                  try clear c50b0
                                  try clear c50b1
                                  try clear c53
                                  try clear c54
                                  try clear c54b0
                                  try clear c54b1
                                  try clear c55
                                  try clear c55b0
                                  try clear c55b1
                                  try clear hx265_0
                                  try clear hx41_0
                                  try clear p2
                                  try clear p26
                                  try clear p265
                                  try clear p4
                                  try clear p41
                                  try clear p6
                                  try clear q2
                                  try clear q26
                                  try clear q265
                                  try clear q3
                                  try clear q31
                                  try clear q4
                                  try clear q41
                                  obtain ⟨kq, x15_51, rfl, HA, HJ51, HO_9, HO_12, HB⟩ := hcut
                                  cases kq with
                                  | zero => exact absurd HA.out (by simp [zoneinfolaw12_DesigsValidity.j3])
                                  | succ kj51 =>
                                    have H := HA.out
                                    clear HA
                                    simp only [zoneinfolaw12_DesigsValidity.j3] at H
                                    replace H := Option.bind_eq_some_iff.mp H
                                    obtain ⟨t274, A560, H⟩ := H
                                    replace H : (if t274 = true then ((desigs_Valid.f kj51 y261).bind fun t275 => (if (t275 == (!x11_25)) = true then (if x11_25 = true then ((desigs_Bad.f kj51 y261).bind fun t276 => (if t276 = (y261.length : Int) then ((desigs_Bad.f kj51 y272).bind fun t277 => (some (t277 == x15_51))) else (none))) else ((desigs_Bad.f kj51 y272).bind fun t278 => (some (t278 == x15_51)))) else (none))) else (none)) = some r := H
                                    have A56 := Aside0.mk A560
                                    clear A560
                                    by_cases c57 : t274 = true
                                    · subst c57
                                      have H1 : ((desigs_Valid.f kj51 y261).bind fun t275 => (if (t275 == (!x11_25)) = true then (if x11_25 = true then ((desigs_Bad.f kj51 y261).bind fun t276 => (if t276 = (y261.length : Int) then ((desigs_Bad.f kj51 y272).bind fun t277 => (some (t277 == x15_51))) else (none))) else ((desigs_Bad.f kj51 y272).bind fun t278 => (some (t278 == x15_51)))) else (none))) = some r := by rw [if_pos rfl] at H; exact H
                                      clear H
                                      have H := H1
                                      clear H1
                                      replace H := Option.bind_eq_some_iff.mp H
                                      obtain ⟨t275, A580, H⟩ := H
                                      replace H : (if (t275 == (!x11_25)) = true then (if x11_25 = true then ((desigs_Bad.f kj51 y261).bind fun t276 => (if t276 = (y261.length : Int) then ((desigs_Bad.f kj51 y272).bind fun t277 => (some (t277 == x15_51))) else (none))) else ((desigs_Bad.f kj51 y272).bind fun t278 => (some (t278 == x15_51)))) else (none)) = some r := H
                                      have A58 := Aside0.mk A580
                                      clear A580
                                      by_cases c59 : (t275 == (!x11_25)) = true
                                      · rw [if_pos c59] at H
                                        have c59b0 : (t275 == (!x11_25)) = true := c59
                                        (try (have c59b1 : decide (t275 = (!x11_25)) = true := by simpa using c59))
                                        (try (have c59b2 : (t275 == (!x11_25)) = true := by simpa using c59))
                                        clear c59
                                        by_cases c60 : x11_25 = true
                                        · subst c60
                                          (try simp only [Bool.not_true, Bool.not_false, Bool.beq_true, Bool.beq_false] at c59b0)
                                          (first | have c59b0z : t275 = false := (by simpa using c59b0) | have c59b0z : t275 = true := (by simpa using c59b0) | skip)
                                          have H1 : ((desigs_Bad.f kj51 y261).bind fun t276 => (if t276 = (y261.length : Int) then ((desigs_Bad.f kj51 y272).bind fun t277 => (some (t277 == x15_51))) else (none))) = some r := by rw [if_pos rfl] at H; exact H
                                          clear H
                                          have H := H1
                                          clear H1
                                          replace H := Option.bind_eq_some_iff.mp H
                                          obtain ⟨t276, A610, H⟩ := H
                                          replace H : (if t276 = (y261.length : Int) then ((desigs_Bad.f kj51 y272).bind fun t277 => (some (t277 == x15_51))) else (none)) = some r := H
                                          have A61 := Aside0.mk A610
                                          clear A610
                                          by_cases c62 : t276 = (y261.length : Int)
                                          · rw [if_pos c62] at H
                                            have c62b0 : (t276 == (y261.length : Int)) = true := beq_iff_eq.mpr c62
                                            have c62b1 : (t276 != (y261.length : Int)) = false := bne_eq_false_iff_eq.mpr c62
                                            clear c62
                                            replace H := Option.bind_eq_some_iff.mp H
                                            obtain ⟨t277, A630, H⟩ := H
                                            replace H : (some (t277 == x15_51)) = some r := H
                                            have A63 := Aside0.mk A630
                                            clear A630
                                            obtain rfl := Option.some.inj H
                                            go_wp2_with (first | (go_at_call 9; (with_reducible refine (desigs_Valid.calls kj51 _ _ y258 true _ ?side1 ?side2 A56.out).mono ?_); (case side1 => repeat (first | exact (Kd.R_reads' HO_9.out).2.2 | (with_reducible refine Kd.C_alloc ?_ _) | (with_reducible refine Kd.C_drewN ?_ _) | (with_reducible refine Kd.C_drew ?_))); (case side2 => exact (Kd.R_reads' HO_9.out).2.1); rintro e w' ⟨rfl, ⟨nd, rfl⟩⟩) | (go_at_call 9; (with_reducible refine (desigs_Valid.calls kj51 _ _ y261 t275 _ ?side1 ?side2 A58.out).mono ?_); (case side1 => repeat (first | exact (Kd.C_below HR264.out (by repeat (first | (with_reducible first | exact HB.out | apply below_alloc | apply pw_below_drewN | apply below_drew1) | exact HB.out))) | (with_reducible refine Kd.C_alloc ?_ _) | (with_reducible refine Kd.C_drewN ?_ _) | (with_reducible refine Kd.C_drew ?_))); (case side2 => exact HC264.out); rintro e w' ⟨rfl, ⟨nd, rfl⟩⟩) | (go_at_call 11; (with_reducible refine (desigs_Bad.calls kj51 _ _ y261 t276 _ ?side1 ?side2 A61.out).mono ?_); (case side1 => repeat (first | exact (Kd.C_below HR264.out (by repeat (first | (with_reducible first | exact HB.out | apply below_alloc | apply pw_below_drewN | apply below_drew1) | exact HB.out))) | (with_reducible refine Kd.C_alloc ?_ _) | (with_reducible refine Kd.C_drewN ?_ _) | (with_reducible refine Kd.C_drew ?_))); (case side2 => exact HC264.out); rintro e w' ⟨rfl, ⟨nd, rfl⟩⟩) | (go_at_call 11; (with_reducible refine (desigs_Bad.calls kj51 _ _ y272 t277 _ ?side1 ?side2 A63.out).mono ?_); (case side1 => repeat (first | exact (Kd.R_reads' HO_12.out).2.2 | (with_reducible refine Kd.C_alloc ?_ _) | (with_reducible refine Kd.C_drewN ?_ _) | (with_reducible refine Kd.C_drew ?_))); (case side2 => exact (Kd.R_reads' HO_12.out).2.1); rintro e w' ⟨rfl, ⟨nd, rfl⟩⟩))
                                            go_ret
                                            exact ⟨by first | rfl | (simp [errW_none, errW_some] <;> rfl) | (simp only [← hji23, ← hji38]; first | rfl | (simp [errW_none, errW_some] <;> rfl)) | (simp [*, errW_none, errW_some] <;> rfl), by repeat (first | (with_reducible first | exact HB.out | apply below_alloc | apply pw_below_drewN | apply below_drew1) | exact HB.out)⟩
                                          · rw [if_neg c62] at H
                                            exact absurd H (by simp)
                                        · replace c60 := Bool.eq_false_iff.mpr c60
                                          subst c60
                                          (try simp only [Bool.not_true, Bool.not_false, Bool.beq_true, Bool.beq_false] at c59b0)
                                          (first | have c59b0z : t275 = false := (by simpa using c59b0) | have c59b0z : t275 = true := (by simpa using c59b0) | skip)
                                          have H1 : ((desigs_Bad.f kj51 y272).bind fun t278 => (some (t278 == x15_51))) = some r := by rw [if_neg (show ¬ (false = true) by decide)] at H; exact H
                                          clear H
                                          have H := H1
                                          clear H1
                                          replace H := Option.bind_eq_some_iff.mp H
                                          obtain ⟨t278, A640, H⟩ := H
                                          replace H : (some (t278 == x15_51)) = some r := H
                                          have A64 := Aside0.mk A640
                                          clear A640
                                          obtain rfl := Option.some.inj H
                                          go_wp2_with (first | (go_at_call 9; (with_reducible refine (desigs_Valid.calls kj51 _ _ y258 true _ ?side1 ?side2 A56.out).mono ?_); (case side1 => repeat (first | exact (Kd.R_reads' HO_9.out).2.2 | (with_reducible refine Kd.C_alloc ?_ _) | (with_reducible refine Kd.C_drewN ?_ _) | (with_reducible refine Kd.C_drew ?_))); (case side2 => exact (Kd.R_reads' HO_9.out).2.1); rintro e w' ⟨rfl, ⟨nd, rfl⟩⟩) | (go_at_call 9; (with_reducible refine (desigs_Valid.calls kj51 _ _ y261 t275 _ ?side1 ?side2 A58.out).mono ?_); (case side1 => repeat (first | exact (Kd.C_below HR264.out (by repeat (first | (with_reducible first | exact HB.out | apply below_alloc | apply pw_below_drewN | apply below_drew1) | exact HB.out))) | (with_reducible refine Kd.C_alloc ?_ _) | (with_reducible refine Kd.C_drewN ?_ _) | (with_reducible refine Kd.C_drew ?_))); (case side2 => exact HC264.out); rintro e w' ⟨rfl, ⟨nd, rfl⟩⟩) | (go_at_call 11; (with_reducible refine (desigs_Bad.calls kj51 _ _ y272 t278 _ ?side1 ?side2 A64.out).mono ?_); (case side1 => repeat (first | exact (Kd.R_reads' HO_12.out).2.2 | (with_reducible refine Kd.C_alloc ?_ _) | (with_reducible refine Kd.C_drewN ?_ _) | (with_reducible refine Kd.C_drew ?_))); (case side2 => exact (Kd.R_reads' HO_12.out).2.1); rintro e w' ⟨rfl, ⟨nd, rfl⟩⟩))
                                          go_ret
                                          exact ⟨by first | rfl | (simp [errW_none, errW_some] <;> rfl) | (simp only [← hji23, ← hji38]; first | rfl | (simp [errW_none, errW_some] <;> rfl)) | (simp [*, errW_none, errW_some] <;> rfl), by repeat (first | (with_reducible first | exact HB.out | apply below_alloc | apply pw_below_drewN | apply below_drew1) | exact HB.out)⟩
                                      · rw [if_neg c59] at H
                                        exact absurd H (by simp)
                                    · replace c57 := Bool.eq_false_iff.mpr c57
                                      subst c57
                                      have H1 : (none) = some r := by rw [if_neg (show ¬ (false = true) by decide)] at H; exact H
                                      clear H
                                      have H := H1
                                      clear H1
                                      exact absurd H (by simp)
                          · rw [if_neg c40] at H
                            exact absurd H (by simp)
                        · rw [if_neg c39] at H
                          exact absurd H (by simp)
                    · rw [if_neg c36] at H
                      exact absurd H (by simp)
              · rw [if_neg c25] at H
                exact absurd H (by simp)
            · rw [if_neg c24] at H
              exact absurd H (by simp)
          · rw [if_neg c22] at H
            exact absurd H (by simp)
        · rw [if_neg c21] at H
          exact absurd H (by simp)

/-- THE ONE PURE STATEMENT of zoneinfolaw12_DesigsValidity: yours. -/
def zoneinfolaw12_DesigsValidity.Pure : Prop := ∀ (l0 : List Int) (l1 : List Int) (a2 : Int) (a3 : Int), l0.length ≤ maxLen → l0.length * 1 ≤ 140737488351232 → (∀ x ∈ l0, (Lit.int .u8 x).wf = true) → l1.length ≤ maxLen → l1.length * 1 ≤ 140737488351232 → (∀ x ∈ l1, (Lit.int .u8 x).wf = true) → (Lit.int .u16 a2).wf = true → (Lit.int .u8 a3).wf = true → ∃ k, zoneinfolaw12_DesigsValidity.f k l0 l1 a2 a3 = some true
theorem zoneinfolaw12_DesigsValidity.walk (P : zoneinfolaw12_DesigsValidity.Pure) (a0 : Option Addr) (len0 cap0 : Nat) (z0 : List Int) (a1 : Option Addr) (len1 cap1 : Nat) (z1 : List Int) (a2 : Int) (a3 : Int) (w : World) (w0 : (a0 = none ∧ len0 = 0 ∧ cap0 = 0 ∧ z0 = []) ∨ ∃ x, a0 = some x ∧ len0 ≤ cap0 ∧ cap0 ≤ maxLen ∧ z0.length = cap0 ∧ (∀ i, i < z0.length → w.cell? (x.add i) = some (.int .u8 (z0.getD i 0))) ∧ ∀ n ∈ z0, (Lit.int .u8 n).wf = true) (y0 : len0 * 1 ≤ 140737488351232) (w1 : (a1 = none ∧ len1 = 0 ∧ cap1 = 0 ∧ z1 = []) ∨ ∃ x, a1 = some x ∧ len1 ≤ cap1 ∧ cap1 ≤ maxLen ∧ z1.length = cap1 ∧ (∀ i, i < z1.length → w.cell? (x.add i) = some (.int .u8 (z1.getD i 0))) ∧ ∀ n ∈ z1, (Lit.int .u8 n).wf = true) (y1 : len1 * 1 ≤ 140737488351232) (w2 : (Lit.int .u16 a2).wf = true) (w3 : (Lit.int .u8 a3).wf = true) :
    Calls Try.prog 6 #[.slice a0 len0 cap0, .slice a1 len1 cap1, .int .u16 a2, .int .u8 a3] w fun e w' => e = .returned (.bool true) ∧ Below w.heap.size w w' := by
  obtain ⟨l0, rfl, hr0, hm0, hw0, hc0⟩ := ReadsInt.ofRowC w0
  obtain ⟨l1, rfl, hr1, hm1, hw1, hc1⟩ := ReadsInt.ofRowC w1
  obtain ⟨k, h⟩ := P l0 l1 a2 a3 hm0 y0 hw0 hm1 y1 hw1 w2 w3
  refine (zoneinfolaw12_DesigsValidity.calls k _ _ l0 _ _ l1 a2 a3 true w (Kd.C_of_reads (d := (0 : Int)) (h1 := fun _ => rfl) hr0) hc0 (Kd.C_of_reads (d := (0 : Int)) (h1 := fun _ => rfl) hr1) hc1 h).mono ?_
  rintro e w' ⟨rfl, hd⟩
  exact ⟨rfl, hd⟩

end Go.Proofs.Ytchlggnbgabddaa.G
