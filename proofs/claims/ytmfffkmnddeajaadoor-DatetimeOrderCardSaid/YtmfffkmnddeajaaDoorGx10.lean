/- Written by a program of this session for this seat: contracts of the functions that its laws reach, or the row of a law over its plain part. -/
import Derived.Test.YtmfffkmnddeajaaDoorGx0
import Derived.Test.YtmfffkmnddeajaaDoorGx2
import Derived.Test.YtmfffkmnddeajaaDoorGx5
namespace Go.Proofs.YtmfffkmnddeajaaDoor.G
open Go.RowKit Go.Proofs.YtmfffkmnddeajaaDoorW.PrintWords Go.Proofs.YtmfffkmnddeajaaDoorW.PrintLast Go.Proofs.YtmfffkmnddeajaaDoorW.PrintMore
attribute [local go_sem] max2_int min2_int max_two min_two max_three min_three max_four min_four   -- for this text's walks alone
set_option linter.unusedVariables false
set_option linter.unusedSimpArgs false

/-! ### zoneinfolaw05_DatetimeOrder: function 5 -/
mutual
def zoneinfolaw05_DatetimeOrder.j0 : Nat → Int → Int → Int → Bool → Option (Bool)
  | 0, _, _, _, _ => none
  | k + 1, x0, x5, x6, x61 => if x61 = true then (none) else (if x5 < 0 then (if (wrap64 ((wrap64 ((wrap64 (x5 + 1)) * 86400)) + (wrap64 (x6 - 86400)))) = x0 then (if x5 ≥ 0 then (zoneinfolaw05_DatetimeOrder.j1 k x0 ((wrap64 ((wrap64 (x5 * 86400)) + x6)) != x0)) else (zoneinfolaw05_DatetimeOrder.j1 k x0 false)) else (zoneinfolaw05_DatetimeOrder.j1 k x0 true)) else (if x5 ≥ 0 then (zoneinfolaw05_DatetimeOrder.j1 k x0 ((wrap64 ((wrap64 (x5 * 86400)) + x6)) != x0)) else (zoneinfolaw05_DatetimeOrder.j1 k x0 false)))
def zoneinfolaw05_DatetimeOrder.j1 : Nat → Int → Bool → Option (Bool)
  | 0, _, _ => none
  | k + 1, x0, x85 => if x85 = true then (none) else (if x0 > 9223372036854689407 then (some true) else ((datetime_Of.f x0).bind fun bt238 => ((datetime_Of.f (wrap64 (x0 + 86400))).bind fun bt246 => (if bt238.2.2.2.1 = bt246.2.2.2.1 then (if bt238.2.2.2.2.1 = bt246.2.2.2.2.1 then (if bt238.2.2.2.2.2.1 = bt246.2.2.2.2.2.1 then (some (bt246.2.2.2.2.2.2 == (Int.tmod (wrap64 (bt238.2.2.2.2.2.2 + 1)) 7))) else (none)) else (none)) else (none)))))
end
def zoneinfolaw05_DatetimeOrder.f (k : Nat) (a0 : Int) (a1 : Int) : Option (Bool) := (zoneinfolaw05_awake.f k).bind fun t233 => (if t233 = true then ((datetime_Split.f a0).bind fun bt234 => ((datetime_Split.f a1).bind fun bt236 => (if bt234.2 < 0 then (zoneinfolaw05_DatetimeOrder.j0 k a0 bt234.1 bt234.2 true) else (if bt234.2 ≥ 86400 then (zoneinfolaw05_DatetimeOrder.j0 k a0 bt234.1 bt234.2 true) else (if bt234.1 < bt236.1 then (if ((decide (a0 < a1)) != true) = true then (zoneinfolaw05_DatetimeOrder.j0 k a0 bt234.1 bt234.2 true) else (if bt234.1 = bt236.1 then (zoneinfolaw05_DatetimeOrder.j0 k a0 bt234.1 bt234.2 ((a0 == a1) != (bt234.2 == bt236.2))) else (zoneinfolaw05_DatetimeOrder.j0 k a0 bt234.1 bt234.2 ((a0 == a1) != false)))) else (if bt234.1 = bt236.1 then (if ((decide (a0 < a1)) != (decide (bt234.2 < bt236.2))) = true then (zoneinfolaw05_DatetimeOrder.j0 k a0 bt234.1 bt234.2 true) else (zoneinfolaw05_DatetimeOrder.j0 k a0 bt234.1 bt234.2 ((a0 == a1) != (bt234.2 == bt236.2)))) else (if ((decide (a0 < a1)) != false) = true then (zoneinfolaw05_DatetimeOrder.j0 k a0 bt234.1 bt234.2 true) else (zoneinfolaw05_DatetimeOrder.j0 k a0 bt234.1 bt234.2 ((a0 == a1) != false))))))))) else (none))
theorem zoneinfolaw05_DatetimeOrder.mono_l : ∀ k, (∀ y0 y1 y2 y3, LeO (zoneinfolaw05_DatetimeOrder.j0 k y0 y1 y2 y3) (zoneinfolaw05_DatetimeOrder.j0 (k + 1) y0 y1 y2 y3)) ∧ (∀ y0 y1, LeO (zoneinfolaw05_DatetimeOrder.j1 k y0 y1) (zoneinfolaw05_DatetimeOrder.j1 (k + 1) y0 y1))
  | 0 => ⟨fun _ _ _ _ r h => by simp [zoneinfolaw05_DatetimeOrder.j0] at h, fun _ _ r h => by simp [zoneinfolaw05_DatetimeOrder.j1] at h⟩
  | k + 1 => by
    obtain ⟨ih0, ih1⟩ := zoneinfolaw05_DatetimeOrder.mono_l k
    refine ⟨?_, ?_⟩
    · intro y0 y1 y2 y3
      unfold zoneinfolaw05_DatetimeOrder.j0
      repeat' first
      | (with_reducible exact ih0 _ _ _ _)
      | (with_reducible exact ih1 _ _)
      | (with_reducible exact zoneinfolaw05_awake.mono _)
      | (with_reducible exact LeO.refl _)
      | (with_reducible exact LeO.none _)
      | (with_reducible refine LeO.ite ?_ ?_)
      | (with_reducible refine LeO.bind ?_ (fun _ => ?_))
      | exact ih0 _ _ _ _
      | exact ih1 _ _
      | exact zoneinfolaw05_awake.mono _
      | exact LeO.none _
      | refine LeO.ite ?_ ?_
      | refine LeO.bind ?_ (fun _ => ?_)
    · intro y0 y1
      unfold zoneinfolaw05_DatetimeOrder.j1
      repeat' first
      | (with_reducible exact ih0 _ _ _ _)
      | (with_reducible exact ih1 _ _)
      | (with_reducible exact zoneinfolaw05_awake.mono _)
      | (with_reducible exact LeO.refl _)
      | (with_reducible exact LeO.none _)
      | (with_reducible refine LeO.ite ?_ ?_)
      | (with_reducible refine LeO.bind ?_ (fun _ => ?_))
      | exact ih0 _ _ _ _
      | exact ih1 _ _
      | exact zoneinfolaw05_awake.mono _
      | exact LeO.none _
      | refine LeO.ite ?_ ?_
      | refine LeO.bind ?_ (fun _ => ?_)
theorem zoneinfolaw05_DatetimeOrder.mono : ∀ a0 a1 k, LeO (zoneinfolaw05_DatetimeOrder.f k a0 a1) (zoneinfolaw05_DatetimeOrder.f (k + 1) a0 a1) := by
  intro a0 a1 k
  obtain ⟨ih0, ih1⟩ := zoneinfolaw05_DatetimeOrder.mono_l k
  unfold zoneinfolaw05_DatetimeOrder.f
  repeat' first
      | (with_reducible exact ih0 _ _ _ _)
      | (with_reducible exact ih1 _ _)
      | (with_reducible exact zoneinfolaw05_awake.mono _)
      | (with_reducible exact LeO.refl _)
      | (with_reducible exact LeO.none _)
      | (with_reducible refine LeO.ite ?_ ?_)
      | (with_reducible refine LeO.bind ?_ (fun _ => ?_))
      | exact ih0 _ _ _ _
      | exact ih1 _ _
      | exact zoneinfolaw05_awake.mono _
      | exact LeO.none _
      | refine LeO.ite ?_ ?_
      | refine LeO.bind ?_ (fun _ => ?_)
set_option maxHeartbeats 8000000 in
set_option maxRecDepth 100000 in
theorem zoneinfolaw05_DatetimeOrder.calls (k : Nat) (a0 : Int) (a1 : Int) (r : Bool) (w : World) (hrg : GL w) (h : zoneinfolaw05_DatetimeOrder.f k a0 a1 = some r) :
    Calls Tryd.prog 5 #[.int .i64 a0, .int .i64 a1] w fun e w' => e = .returned (.bool r) ∧ Below w.heap.size w w' := by
  have hu23 := Tryd.underlying23
  have HRg := Aside0.mk hrg
  clear hrg
  have HB := Aside0.mk (Below.refl w.heap.size w)
  have H : ((zoneinfolaw05_awake.f k).bind fun t233 => (if t233 = true then ((datetime_Split.f a0).bind fun bt234 => ((datetime_Split.f a1).bind fun bt236 => (if bt234.2 < 0 then (zoneinfolaw05_DatetimeOrder.j0 k a0 bt234.1 bt234.2 true) else (if bt234.2 ≥ 86400 then (zoneinfolaw05_DatetimeOrder.j0 k a0 bt234.1 bt234.2 true) else (if bt234.1 < bt236.1 then (if ((decide (a0 < a1)) != true) = true then (zoneinfolaw05_DatetimeOrder.j0 k a0 bt234.1 bt234.2 true) else (if bt234.1 = bt236.1 then (zoneinfolaw05_DatetimeOrder.j0 k a0 bt234.1 bt234.2 ((a0 == a1) != (bt234.2 == bt236.2))) else (zoneinfolaw05_DatetimeOrder.j0 k a0 bt234.1 bt234.2 ((a0 == a1) != false)))) else (if bt234.1 = bt236.1 then (if ((decide (a0 < a1)) != (decide (bt234.2 < bt236.2))) = true then (zoneinfolaw05_DatetimeOrder.j0 k a0 bt234.1 bt234.2 true) else (zoneinfolaw05_DatetimeOrder.j0 k a0 bt234.1 bt234.2 ((a0 == a1) != (bt234.2 == bt236.2)))) else (if ((decide (a0 < a1)) != false) = true then (zoneinfolaw05_DatetimeOrder.j0 k a0 bt234.1 bt234.2 true) else (zoneinfolaw05_DatetimeOrder.j0 k a0 bt234.1 bt234.2 ((a0 == a1) != false))))))))) else (none))) = some r := h
  clear h
  replace H := Option.bind_eq_some_iff.mp H
  obtain ⟨t233, A30, H⟩ := H
  replace H : (if t233 = true then ((datetime_Split.f a0).bind fun bt234 => ((datetime_Split.f a1).bind fun bt236 => (if bt234.2 < 0 then (zoneinfolaw05_DatetimeOrder.j0 k a0 bt234.1 bt234.2 true) else (if bt234.2 ≥ 86400 then (zoneinfolaw05_DatetimeOrder.j0 k a0 bt234.1 bt234.2 true) else (if bt234.1 < bt236.1 then (if ((decide (a0 < a1)) != true) = true then (zoneinfolaw05_DatetimeOrder.j0 k a0 bt234.1 bt234.2 true) else (if bt234.1 = bt236.1 then (zoneinfolaw05_DatetimeOrder.j0 k a0 bt234.1 bt234.2 ((a0 == a1) != (bt234.2 == bt236.2))) else (zoneinfolaw05_DatetimeOrder.j0 k a0 bt234.1 bt234.2 ((a0 == a1) != false)))) else (if bt234.1 = bt236.1 then (if ((decide (a0 < a1)) != (decide (bt234.2 < bt236.2))) = true then (zoneinfolaw05_DatetimeOrder.j0 k a0 bt234.1 bt234.2 true) else (zoneinfolaw05_DatetimeOrder.j0 k a0 bt234.1 bt234.2 ((a0 == a1) != (bt234.2 == bt236.2)))) else (if ((decide (a0 < a1)) != false) = true then (zoneinfolaw05_DatetimeOrder.j0 k a0 bt234.1 bt234.2 true) else (zoneinfolaw05_DatetimeOrder.j0 k a0 bt234.1 bt234.2 ((a0 == a1) != false))))))))) else (none)) = some r := H
  have A3 := Aside0.mk A30
  clear A30
  by_cases c4 : t233 = true
  · subst c4
    have H1 : ((datetime_Split.f a0).bind fun bt234 => ((datetime_Split.f a1).bind fun bt236 => (if bt234.2 < 0 then (zoneinfolaw05_DatetimeOrder.j0 k a0 bt234.1 bt234.2 true) else (if bt234.2 ≥ 86400 then (zoneinfolaw05_DatetimeOrder.j0 k a0 bt234.1 bt234.2 true) else (if bt234.1 < bt236.1 then (if ((decide (a0 < a1)) != true) = true then (zoneinfolaw05_DatetimeOrder.j0 k a0 bt234.1 bt234.2 true) else (if bt234.1 = bt236.1 then (zoneinfolaw05_DatetimeOrder.j0 k a0 bt234.1 bt234.2 ((a0 == a1) != (bt234.2 == bt236.2))) else (zoneinfolaw05_DatetimeOrder.j0 k a0 bt234.1 bt234.2 ((a0 == a1) != false)))) else (if bt234.1 = bt236.1 then (if ((decide (a0 < a1)) != (decide (bt234.2 < bt236.2))) = true then (zoneinfolaw05_DatetimeOrder.j0 k a0 bt234.1 bt234.2 true) else (zoneinfolaw05_DatetimeOrder.j0 k a0 bt234.1 bt234.2 ((a0 == a1) != (bt234.2 == bt236.2)))) else (if ((decide (a0 < a1)) != false) = true then (zoneinfolaw05_DatetimeOrder.j0 k a0 bt234.1 bt234.2 true) else (zoneinfolaw05_DatetimeOrder.j0 k a0 bt234.1 bt234.2 ((a0 == a1) != false))))))))) = some r := by rw [if_pos rfl] at H; exact H
    clear H
    have H := H1
    clear H1
    replace H := Option.bind_eq_some_iff.mp H
    obtain ⟨⟨t234, t235⟩, A50, H⟩ := H
    replace H : ((datetime_Split.f a1).bind fun bt236 => (if t235 < 0 then (zoneinfolaw05_DatetimeOrder.j0 k a0 t234 t235 true) else (if t235 ≥ 86400 then (zoneinfolaw05_DatetimeOrder.j0 k a0 t234 t235 true) else (if t234 < bt236.1 then (if ((decide (a0 < a1)) != true) = true then (zoneinfolaw05_DatetimeOrder.j0 k a0 t234 t235 true) else (if t234 = bt236.1 then (zoneinfolaw05_DatetimeOrder.j0 k a0 t234 t235 ((a0 == a1) != (t235 == bt236.2))) else (zoneinfolaw05_DatetimeOrder.j0 k a0 t234 t235 ((a0 == a1) != false)))) else (if t234 = bt236.1 then (if ((decide (a0 < a1)) != (decide (t235 < bt236.2))) = true then (zoneinfolaw05_DatetimeOrder.j0 k a0 t234 t235 true) else (zoneinfolaw05_DatetimeOrder.j0 k a0 t234 t235 ((a0 == a1) != (t235 == bt236.2)))) else (if ((decide (a0 < a1)) != false) = true then (zoneinfolaw05_DatetimeOrder.j0 k a0 t234 t235 true) else (zoneinfolaw05_DatetimeOrder.j0 k a0 t234 t235 ((a0 == a1) != false)))))))) = some r := H
    have A5 := Aside0.mk A50
    clear A50
    replace H := Option.bind_eq_some_iff.mp H
    obtain ⟨⟨t236, t237⟩, A60, H⟩ := H
    replace H : (if t235 < 0 then (zoneinfolaw05_DatetimeOrder.j0 k a0 t234 t235 true) else (if t235 ≥ 86400 then (zoneinfolaw05_DatetimeOrder.j0 k a0 t234 t235 true) else (if t234 < t236 then (if ((decide (a0 < a1)) != true) = true then (zoneinfolaw05_DatetimeOrder.j0 k a0 t234 t235 true) else (if t234 = t236 then (zoneinfolaw05_DatetimeOrder.j0 k a0 t234 t235 ((a0 == a1) != (t235 == t237))) else (zoneinfolaw05_DatetimeOrder.j0 k a0 t234 t235 ((a0 == a1) != false)))) else (if t234 = t236 then (if ((decide (a0 < a1)) != (decide (t235 < t237))) = true then (zoneinfolaw05_DatetimeOrder.j0 k a0 t234 t235 true) else (zoneinfolaw05_DatetimeOrder.j0 k a0 t234 t235 ((a0 == a1) != (t235 == t237)))) else (if ((decide (a0 < a1)) != false) = true then (zoneinfolaw05_DatetimeOrder.j0 k a0 t234 t235 true) else (zoneinfolaw05_DatetimeOrder.j0 k a0 t234 t235 ((a0 == a1) != false))))))) = some r := H
    have A6 := Aside0.mk A60
    clear A60
    have HC7 := Aside0.mk H
    clear H
    go_enter Tryd.func5, Tryd.ntmps5
    go_upto_region 5 with (first | ((with_reducible refine gate_callee (f := 8) rfl ?_); refine goesL_ (some 11) rfl rfl Tryd.func8 (by kernel_rfl) rfl #[] rfl (by (try simp only [List.map_toArray, List.map_cons, List.map_nil]); first | done | rfl | (simp only [List.length_drop, List.length_take]; rfl)) ?_; (with_reducible refine (zoneinfolaw05_awake.calls k  true _ ?side1 A3.out).mono ?_); (case side1 => repeat (first | exact HRg.out | (with_reducible refine Kd.C_alloc ?_ _) | (with_reducible refine Kd.C_drewN ?_ _) | (with_reducible refine Kd.C_drew ?_))); rintro e w8 ⟨rfl, hb⟩; refine ⟨_, rfl, ?_⟩; have n0_ := Aside0.mk (below_step (by repeat (first | (with_reducible first | exact HB.out | apply below_alloc | apply pw_below_drewN | apply below_drew1) | exact HB.out)) hb); clear HB; have HB := n0_; clear n0_; (try clear hb); (try clear hb2); (try clear hk); (try clear hi)) | ((with_reducible refine gate_callee (f := 9) rfl ?_); refine goesL_ (some 15) rfl rfl Tryd.func9 (by kernel_rfl) rfl #[.int .i64 a0] rfl (by (try simp only [List.map_toArray, List.map_cons, List.map_nil]); first | done | rfl | (simp only [List.length_drop, List.length_take]; rfl)) ?_; (with_reducible refine (datetime_Split.calls a0 t234 t235 _ A5.out).mono ?_); rintro e w' ⟨rfl, ⟨nd, rfl⟩⟩; refine ⟨_, rfl, ?_⟩) | ((with_reducible refine gate_callee (f := 9) rfl ?_); refine goesL_ (some 20) rfl rfl Tryd.func9 (by kernel_rfl) rfl #[.int .i64 a1] rfl (by (try simp only [List.map_toArray, List.map_cons, List.map_nil]); first | done | rfl | (simp only [List.length_drop, List.length_take]; rfl)) ?_; (with_reducible refine (datetime_Split.calls a1 t236 t237 _ A6.out).mono ?_); rintro e w' ⟨rfl, ⟨nd, rfl⟩⟩; refine ⟨_, rfl, ?_⟩))
    (try simp only [Act.put, List.setIfInBounds_toArray, List.set_cons_zero, List.set_cons_succ])
    go_cut [61] (fun v61 wc => ∃ (kq : Nat) (x61_6 : Bool), v61 = .bool x61_6 ∧ Aside0 (zoneinfolaw05_DatetimeOrder.j0 kq a0 t234 t235 x61_6 = some r) ∧ Aside0 (kq ≤ k) ∧ Aside0 (Below w.heap.size w wc))
    case first =>
      have H := HC7.out
      clear HC7
      by_cases c9 : t235 < 0
      · rw [if_pos c9] at H
        have c9b0 : decide (t235 < 0) = true := decide_eq_true c9
        clear c9
        (first | rw [c9b0] | (simp only [i64_w, i32_w]; rw [c9b0]) | skip)
        have H' := Aside0.mk H
        clear H
        go_wp2
        go_meet
        case rel => exact ⟨_, (true), (by first | rfl | (simp; done) | (simp [*]; done)), H', ⟨by first | omega | exact Nat.le_refl _⟩, ⟨by repeat (first | (with_reducible first | exact HB.out | apply below_alloc | apply pw_below_drewN | apply below_drew1) | exact HB.out)⟩⟩
      · rw [if_neg c9] at H
        have c9b0 : decide (t235 < 0) = false := decide_eq_false c9
        clear c9
        (first | rw [c9b0] | (simp only [i64_w, i32_w]; rw [c9b0]) | skip)
        by_cases c10 : t235 ≥ 86400
        · rw [if_pos c10] at H
          have c10b0 : decide (86400 ≤ t235) = true := decide_eq_true c10
          clear c10
          have H' := Aside0.mk H
          clear H
          go_wp2
          go_meet
          case rel => exact ⟨_, (true), (by first | rfl | (simp; done) | (simp [*]; done)), H', ⟨by first | omega | exact Nat.le_refl _⟩, ⟨by repeat (first | (with_reducible first | exact HB.out | apply below_alloc | apply pw_below_drewN | apply below_drew1) | exact HB.out)⟩⟩
        · rw [if_neg c10] at H
          have c10b0 : decide (86400 ≤ t235) = false := decide_eq_false c10
          clear c10
          by_cases c11 : t234 < t236
          · rw [if_pos c11] at H
            have c11b0 : decide (t234 < t236) = true := decide_eq_true c11
            clear c11
            by_cases c12 : ((decide (a0 < a1)) != true) = true
            · rw [if_pos c12] at H
              have c12b0 : ((decide (a0 < a1)) != true) = true := c12
              (try (have c12b1 : decide ((decide (a0 < a1)) = true) = false := by simpa using c12))
              (try (have c12b2 : ((decide (a0 < a1)) == true) = false := by simpa using c12))
              (try (have c12b3 : ¬ ((decide (a0 < a1)) = true) := by simpa using c12))
              clear c12
              have H' := Aside0.mk H
              clear H
              go_wp2
              go_meet
              case rel => exact ⟨_, (true), (by first | rfl | (simp; done) | (simp [*]; done)), H', ⟨by first | omega | exact Nat.le_refl _⟩, ⟨by repeat (first | (with_reducible first | exact HB.out | apply below_alloc | apply pw_below_drewN | apply below_drew1) | exact HB.out)⟩⟩
            · rw [if_neg c12] at H
              have c12b0 : ((decide (a0 < a1)) != true) = false := by simpa using c12
              (try (have c12b1 : decide ((decide (a0 < a1)) = true) = true := by simpa using c12))
              (try (have c12b2 : ((decide (a0 < a1)) == true) = true := by simpa using c12))
              clear c12
              by_cases c13 : t234 = t236
              · rw [if_pos c13] at H
                have c13b0 : (t234 == t236) = true := beq_iff_eq.mpr c13
                have c13b1 : (t234 != t236) = false := bne_eq_false_iff_eq.mpr c13
                clear c13
                have H' := Aside0.mk H
                clear H
                go_wp2
                go_meet
                case rel => exact ⟨_, (((a0 == a1) != (t235 == t237))), (by first | rfl | (simp; done) | (simp [*]; done)), H', ⟨by first | omega | exact Nat.le_refl _⟩, ⟨by repeat (first | (with_reducible first | exact HB.out | apply below_alloc | apply pw_below_drewN | apply below_drew1) | exact HB.out)⟩⟩
              · rw [if_neg c13] at H
                have c13b0 : (t234 == t236) = false := beq_eq_false_iff_ne.mpr c13
                have c13b1 : (t234 != t236) = true := bne_iff_ne.mpr c13
                have H' := Aside0.mk H
                clear H
                go_wp2
                go_meet
                case rel => exact ⟨_, (((a0 == a1) != false)), (by first | rfl | (simp; done) | (simp [*]; done)), H', ⟨by first | omega | exact Nat.le_refl _⟩, ⟨by repeat (first | (with_reducible first | exact HB.out | apply below_alloc | apply pw_below_drewN | apply below_drew1) | exact HB.out)⟩⟩
          · rw [if_neg c11] at H
            have c11b0 : decide (t234 < t236) = false := decide_eq_false c11
            clear c11
            by_cases c14 : t234 = t236
            · rw [if_pos c14] at H
              have c14b0 : (t234 == t236) = true := beq_iff_eq.mpr c14
              have c14b1 : (t234 != t236) = false := bne_eq_false_iff_eq.mpr c14
              clear c14
              by_cases c15 : ((decide (a0 < a1)) != (decide (t235 < t237))) = true
              · rw [if_pos c15] at H
                have c15b0 : ((decide (a0 < a1)) != (decide (t235 < t237))) = true := c15
                (try (have c15b1 : decide ((decide (a0 < a1)) = (decide (t235 < t237))) = false := by simpa using c15))
                (try (have c15b2 : ((decide (a0 < a1)) == (decide (t235 < t237))) = false := by simpa using c15))
                (try (have c15b3 : ¬ ((decide (a0 < a1)) = (decide (t235 < t237))) := by simpa using c15))
                clear c15
                have H' := Aside0.mk H
                clear H
                go_wp2
                go_meet
                case rel => exact ⟨_, (true), (by first | rfl | (simp; done) | (simp [*]; done)), H', ⟨by first | omega | exact Nat.le_refl _⟩, ⟨by repeat (first | (with_reducible first | exact HB.out | apply below_alloc | apply pw_below_drewN | apply below_drew1) | exact HB.out)⟩⟩
              · rw [if_neg c15] at H
                have c15b0 : ((decide (a0 < a1)) != (decide (t235 < t237))) = false := by simpa using c15
                (try (have c15b1 : decide ((decide (a0 < a1)) = (decide (t235 < t237))) = true := by simpa using c15))
                (try (have c15b2 : ((decide (a0 < a1)) == (decide (t235 < t237))) = true := by simpa using c15))
                clear c15
                have H' := Aside0.mk H
                clear H
                go_wp2
                go_meet
                case rel => exact ⟨_, (((a0 == a1) != (t235 == t237))), (by first | rfl | (simp; done) | (simp [*]; done)), H', ⟨by first | omega | exact Nat.le_refl _⟩, ⟨by repeat (first | (with_reducible first | exact HB.out | apply below_alloc | apply pw_below_drewN | apply below_drew1) | exact HB.out)⟩⟩
            · rw [if_neg c14] at H
              have c14b0 : (t234 == t236) = false := beq_eq_false_iff_ne.mpr c14
              have c14b1 : (t234 != t236) = true := bne_iff_ne.mpr c14
              by_cases c16 : ((decide (a0 < a1)) != false) = true
              · rw [if_pos c16] at H
                have c16b0 : ((decide (a0 < a1)) != false) = true := c16
                (try (have c16b1 : decide ((decide (a0 < a1)) = false) = false := by simpa using c16))
                (try (have c16b2 : ((decide (a0 < a1)) == false) = false := by simpa using c16))
                (try (have c16b3 : ¬ ((decide (a0 < a1)) = false) := by simpa using c16))
                clear c16
                have H' := Aside0.mk H
                clear H
                go_wp2
                go_meet
                case rel => exact ⟨_, (true), (by first | rfl | (simp; done) | (simp [*]; done)), H', ⟨by first | omega | exact Nat.le_refl _⟩, ⟨by repeat (first | (with_reducible first | exact HB.out | apply below_alloc | apply pw_below_drewN | apply below_drew1) | exact HB.out)⟩⟩
              · rw [if_neg c16] at H
                have c16b0 : ((decide (a0 < a1)) != false) = false := by simpa using c16
                (try (have c16b1 : decide ((decide (a0 < a1)) = false) = true := by simpa using c16))
                (try (have c16b2 : ((decide (a0 < a1)) == false) = true := by simpa using c16))
                clear c16
                have H' := Aside0.mk H
                clear H
                go_wp2
                go_meet
                case rel => exact ⟨_, (((a0 == a1) != false)), (by first | rfl | (simp; done) | (simp [*]; done)), H', ⟨by first | omega | exact Nat.le_refl _⟩, ⟨by repeat (first | (with_reducible first | exact HB.out | apply below_alloc | apply pw_below_drewN | apply below_drew1) | exact HB.out)⟩⟩
    case rest =>
      clear HC7
      try clear c1
      try clear p2
      try clear c4
      try clear c5
      try clear c8
      try clear c9
      try clear c9b0
      try clear c10
      try clear c10b0
      try clear c11
      try clear c11b0
      try clear c12
      try clear c12b0
      try clear c12b1
      try clear c12b2
      try clear c13
      try clear c13b0
      try clear c13b1
      try clear c14
      try clear c14b0
      try clear c14b1
      try clear c15
      try clear c15b0
      try clear c15b1
      try clear c15b2
      try clear c16
      try clear c16b0
      try clear c16b1
      try clear c16b2
      obtain ⟨kq, x61_6, rfl, HA, HJ6, HB⟩ := hcut
      cases kq with
      | zero => exact absurd HA.out (by simp [zoneinfolaw05_DatetimeOrder.j0])
      | succ kj6 =>
        have H := HA.out
        clear HA
        simp only [zoneinfolaw05_DatetimeOrder.j0] at H
        by_cases c17 : x61_6 = true
        · subst c17
          have H1 : (none) = some r := by rw [if_pos rfl] at H; exact H
          clear H
          have H := H1
          clear H1
          exact absurd H (by simp)
        · replace c17 := Bool.eq_false_iff.mpr c17
          subst c17
          have H1 : (if t234 < 0 then (if (wrap64 ((wrap64 ((wrap64 (t234 + 1)) * 86400)) + (wrap64 (t235 - 86400)))) = a0 then (if t234 ≥ 0 then (zoneinfolaw05_DatetimeOrder.j1 kj6 a0 ((wrap64 ((wrap64 (t234 * 86400)) + t235)) != a0)) else (zoneinfolaw05_DatetimeOrder.j1 kj6 a0 false)) else (zoneinfolaw05_DatetimeOrder.j1 kj6 a0 true)) else (if t234 ≥ 0 then (zoneinfolaw05_DatetimeOrder.j1 kj6 a0 ((wrap64 ((wrap64 (t234 * 86400)) + t235)) != a0)) else (zoneinfolaw05_DatetimeOrder.j1 kj6 a0 false))) = some r := by rw [if_neg (show ¬ (false = true) by decide)] at H; exact H
          clear H
          have H := H1
          clear H1
          have HC18 := Aside0.mk H
          clear H
          go_upto_region 7 with (fail)
          go_cut [85] (fun v85 wc => ∃ (kq : Nat) (x85_17 : Bool), v85 = .bool x85_17 ∧ Aside0 (zoneinfolaw05_DatetimeOrder.j1 kq a0 x85_17 = some r) ∧ Aside0 (kq ≤ kj6) ∧ Aside0 (Below w.heap.size w wc))
          case first =>
            have H := HC18.out
            clear HC18
            by_cases c19 : t234 < 0
            · rw [if_pos c19] at H
              have c19b0 : decide (t234 < 0) = true := decide_eq_true c19
              clear c19
              (first | rw [c19b0] | (simp only [i64_w, i32_w]; rw [c19b0]) | skip)
              by_cases c20 : (wrap64 ((wrap64 ((wrap64 (t234 + 1)) * 86400)) + (wrap64 (t235 - 86400)))) = a0
              · rw [if_pos c20] at H
                have c20b0 : ((wrap64 ((wrap64 ((wrap64 (t234 + 1)) * 86400)) + (wrap64 (t235 - 86400)))) == a0) = true := beq_iff_eq.mpr c20
                have c20b1 : ((wrap64 ((wrap64 ((wrap64 (t234 + 1)) * 86400)) + (wrap64 (t235 - 86400)))) != a0) = false := bne_eq_false_iff_eq.mpr c20
                clear c20
                by_cases c21 : t234 ≥ 0
                · rw [if_pos c21] at H
                  have c21b0 : decide (0 ≤ t234) = true := decide_eq_true c21
                  clear c21
                  have H' := Aside0.mk H
                  clear H
                  go_wp2
                  go_meet
                  case rel => exact ⟨_, (((wrap64 ((wrap64 (t234 * 86400)) + t235)) != a0)), (by first | rfl | (simp; done) | (simp [*]; done)), H', ⟨by have := HJ6.out; first | omega | exact Nat.le_refl _⟩, ⟨by repeat (first | (with_reducible first | exact HB.out | apply below_alloc | apply pw_below_drewN | apply below_drew1) | exact HB.out)⟩⟩
                · rw [if_neg c21] at H
                  have c21b0 : decide (0 ≤ t234) = false := decide_eq_false c21
                  clear c21
                  have H' := Aside0.mk H
                  clear H
                  go_wp2
                  go_meet
                  case rel => exact ⟨_, (false), (by first | rfl | (simp; done) | (simp [*]; done)), H', ⟨by have := HJ6.out; first | omega | exact Nat.le_refl _⟩, ⟨by repeat (first | (with_reducible first | exact HB.out | apply below_alloc | apply pw_below_drewN | apply below_drew1) | exact HB.out)⟩⟩
              · rw [if_neg c20] at H
                have c20b0 : ((wrap64 ((wrap64 ((wrap64 (t234 + 1)) * 86400)) + (wrap64 (t235 - 86400)))) == a0) = false := beq_eq_false_iff_ne.mpr c20
                have c20b1 : ((wrap64 ((wrap64 ((wrap64 (t234 + 1)) * 86400)) + (wrap64 (t235 - 86400)))) != a0) = true := bne_iff_ne.mpr c20
                have H' := Aside0.mk H
                clear H
                go_wp2
                go_meet
                case rel => exact ⟨_, (true), (by first | rfl | (simp; done) | (simp [*]; done)), H', ⟨by have := HJ6.out; first | omega | exact Nat.le_refl _⟩, ⟨by repeat (first | (with_reducible first | exact HB.out | apply below_alloc | apply pw_below_drewN | apply below_drew1) | exact HB.out)⟩⟩
            · rw [if_neg c19] at H
              have c19b0 : decide (t234 < 0) = false := decide_eq_false c19
              clear c19
              (first | rw [c19b0] | (simp only [i64_w, i32_w]; rw [c19b0]) | skip)
              by_cases c22 : t234 ≥ 0
              · rw [if_pos c22] at H
                have c22b0 : decide (0 ≤ t234) = true := decide_eq_true c22
                clear c22
                have H' := Aside0.mk H
                clear H
                go_wp2
                go_meet
                case rel => exact ⟨_, (((wrap64 ((wrap64 (t234 * 86400)) + t235)) != a0)), (by first | rfl | (simp; done) | (simp [*]; done)), H', ⟨by have := HJ6.out; first | omega | exact Nat.le_refl _⟩, ⟨by repeat (first | (with_reducible first | exact HB.out | apply below_alloc | apply pw_below_drewN | apply below_drew1) | exact HB.out)⟩⟩
              · rw [if_neg c22] at H
                have c22b0 : decide (0 ≤ t234) = false := decide_eq_false c22
                clear c22
                have H' := Aside0.mk H
                clear H
                go_wp2
                go_meet
                case rel => exact ⟨_, (false), (by first | rfl | (simp; done) | (simp [*]; done)), H', ⟨by have := HJ6.out; first | omega | exact Nat.le_refl _⟩, ⟨by repeat (first | (with_reducible first | exact HB.out | apply below_alloc | apply pw_below_drewN | apply below_drew1) | exact HB.out)⟩⟩
          case rest =>
            clear HC18
            try clear c1
            try clear c2
            try clear p2
            try clear c4
            try clear c5
            try clear p6
            try clear c8
            try clear c9
            try clear c9b0
            try clear c10
            try clear c10b0
            try clear c11
            try clear c11b0
            try clear c12
            try clear c12b0
            try clear c12b1
            try clear c12b2
            try clear c13
            try clear c13b0
            try clear c13b1
            try clear c14
            try clear c14b0
            try clear c14b1
            try clear c15
            try clear c15b0
            try clear c15b1
            try clear c15b2
            try clear c16
            try clear c16b0
            try clear c16b1
            try clear c16b2
            try clear c17
            try clear c19
            try clear c19b0
            try clear c20
            try clear c20b0
            try clear c20b1
            try clear c21
            try clear c21b0
            try clear c22
            try clear c22b0
            try clear p2
            obtain ⟨kq, x85_17, rfl, HA, HJ17, HB⟩ := hcut
            cases kq with
            | zero => exact absurd HA.out (by simp [zoneinfolaw05_DatetimeOrder.j1])
            | succ kj17 =>
              have H := HA.out
              clear HA
              simp only [zoneinfolaw05_DatetimeOrder.j1] at H
              by_cases c23 : x85_17 = true
              · subst c23
                have H1 : (none) = some r := by rw [if_pos rfl] at H; exact H
                clear H
                have H := H1
                clear H1
                exact absurd H (by simp)
              · replace c23 := Bool.eq_false_iff.mpr c23
                subst c23
                have H1 : (if a0 > 9223372036854689407 then (some true) else ((datetime_Of.f a0).bind fun bt238 => ((datetime_Of.f (wrap64 (a0 + 86400))).bind fun bt246 => (if bt238.2.2.2.1 = bt246.2.2.2.1 then (if bt238.2.2.2.2.1 = bt246.2.2.2.2.1 then (if bt238.2.2.2.2.2.1 = bt246.2.2.2.2.2.1 then (some (bt246.2.2.2.2.2.2 == (Int.tmod (wrap64 (bt238.2.2.2.2.2.2 + 1)) 7))) else (none)) else (none)) else (none))))) = some r := by rw [if_neg (show ¬ (false = true) by decide)] at H; exact H
                clear H
                have H := H1
                clear H1
                by_cases c24 : a0 > 9223372036854689407
                · rw [if_pos c24] at H
                  have c24b0 : decide (9223372036854689407 < a0) = true := decide_eq_true c24
                  clear c24
                  obtain rfl := Option.some.inj H
                  go_wp2
                  go_ret
                  exact ⟨by first | rfl | (simp [errW_none, errW_some] <;> rfl) | (simp [*, errW_none, errW_some] <;> rfl), by repeat (first | (with_reducible first | exact HB.out | apply below_alloc | apply pw_below_drewN | apply below_drew1) | exact HB.out)⟩
                · rw [if_neg c24] at H
                  have c24b0 : decide (9223372036854689407 < a0) = false := decide_eq_false c24
                  clear c24
                  replace H := Option.bind_eq_some_iff.mp H
                  obtain ⟨⟨t238, t239, t240, t241, t242, t243, t244⟩, A250, H⟩ := H
                  replace H : ((datetime_Of.f (wrap64 (a0 + 86400))).bind fun bt246 => (if t241 = bt246.2.2.2.1 then (if t242 = bt246.2.2.2.2.1 then (if t243 = bt246.2.2.2.2.2.1 then (some (bt246.2.2.2.2.2.2 == (Int.tmod (wrap64 (t244 + 1)) 7))) else (none)) else (none)) else (none))) = some r := H
                  have A25 := Aside0.mk A250
                  clear A250
                  replace H := Option.bind_eq_some_iff.mp H
                  obtain ⟨⟨t246, t247, t248, t249, t250, t251, t252⟩, A260, H⟩ := H
                  replace H : (if t241 = t249 then (if t242 = t250 then (if t243 = t251 then (some (t252 == (Int.tmod (wrap64 (t244 + 1)) 7))) else (none)) else (none)) else (none)) = some r := H
                  have A26 := Aside0.mk A260
                  clear A260
                  by_cases c27 : t241 = t249
                  · rw [if_pos c27] at H
                    have c27b0 : (t241 == t249) = true := beq_iff_eq.mpr c27
                    have c27b1 : (t241 != t249) = false := bne_eq_false_iff_eq.mpr c27
                    clear c27
                    by_cases c28 : t242 = t250
                    · rw [if_pos c28] at H
                      have c28b0 : (t242 == t250) = true := beq_iff_eq.mpr c28
                      have c28b1 : (t242 != t250) = false := bne_eq_false_iff_eq.mpr c28
                      clear c28
                      by_cases c29 : t243 = t251
                      · rw [if_pos c29] at H
                        have c29b0 : (t243 == t251) = true := beq_iff_eq.mpr c29
                        have c29b1 : (t243 != t251) = false := bne_eq_false_iff_eq.mpr c29
                        clear c29
                        obtain rfl := Option.some.inj H
                        go_wp2_with (first | ((with_reducible refine gate_callee (f := 13) rfl ?_); refine goesL_ (some 89) rfl rfl Tryd.func13 (by kernel_rfl) rfl #[.int .i64 a0] rfl (by (try simp only [List.map_toArray, List.map_cons, List.map_nil]); first | done | rfl | (simp only [List.length_drop, List.length_take]; rfl)) ?_; (with_reducible refine (datetime_Of.calls a0 t238 t239 t240 t241 t242 t243 t244 _ A25.out).mono ?_); rintro e w30 ⟨rfl, hb⟩; refine ⟨_, rfl, ?_⟩; have n0_ := Aside0.mk (below_step (by repeat (first | (with_reducible first | exact HB.out | apply below_alloc | apply pw_below_drewN | apply below_drew1) | exact HB.out)) hb); clear HB; have HB := n0_; clear n0_; (try clear hb); (try clear hb2); (try clear hk); (try clear hi)) | ((with_reducible refine gate_dst (N := 9) rfl ?_); refine box_event ?hg (N := 9) ?hd (cs := #[.int .i64 0, .int .i64 0, .int .i64 0, .int .i64 0, .int .i64 0, .int .i64 0, .int .i64 0]) (t := 23) ?hr ?_; (case hd => rfl); (case hg => rfl); (case hr => first | (go_simp; done) | (go_simp; rfl)); intro gb245 hg w31 hbox hb; have n0_ := Aside0.mk (below_step (by repeat (first | (with_reducible first | exact HB.out | apply below_alloc | apply pw_below_drewN | apply below_drew1) | exact HB.out)) hb); have n1_ := Aside0.mk (hbox); have n2_ := Aside0.mk ((by rw [hg]; exact (below_size (by repeat (first | (with_reducible first | exact HB.out | apply below_alloc | apply pw_below_drewN | apply below_drew1) | exact HB.out))) : w.heap.size ≤ gb245)); have n3_ := Aside0.mk ((by rw [hg]; exact (below_size (by repeat (first | (with_reducible first | exact HB.out | apply below_alloc | apply pw_below_drewN | apply below_drew1) | exact HB.out))) : w.heap.size ≤ gb245)); clear HB; have HB := n0_; have BK245 := n1_; have GW245 := n2_; have GE245 := n3_; clear n0_ n1_ n2_ n3_; clear hb hbox hg; have hcz32_0 : w31.cell? ⟨gb245, 0, none⟩ = some (.int .i64 0) := (blk_cell BK245.out 0).trans rfl; have hcz32_1 : w31.cell? ⟨gb245, 1, none⟩ = some (.int .i64 0) := (blk_cell BK245.out 1).trans rfl; have hcz32_2 : w31.cell? ⟨gb245, 2, none⟩ = some (.int .i64 0) := (blk_cell BK245.out 2).trans rfl; have hcz32_3 : w31.cell? ⟨gb245, 3, none⟩ = some (.int .i64 0) := (blk_cell BK245.out 3).trans rfl; have hcz32_4 : w31.cell? ⟨gb245, 4, none⟩ = some (.int .i64 0) := (blk_cell BK245.out 4).trans rfl; have hcz32_5 : w31.cell? ⟨gb245, 5, none⟩ = some (.int .i64 0) := (blk_cell BK245.out 5).trans rfl; have hcz32_6 : w31.cell? ⟨gb245, 6, none⟩ = some (.int .i64 0) := (blk_cell BK245.out 6).trans rfl; have hfz32_0 := blk_frozen BK245.out 0; have hfz32_1 := blk_frozen BK245.out 1; have hfz32_2 := blk_frozen BK245.out 2; have hfz32_3 := blk_frozen BK245.out 3; have hfz32_4 := blk_frozen BK245.out 4; have hfz32_5 := blk_frozen BK245.out 5; have hfz32_6 := blk_frozen BK245.out 6) | ((with_reducible refine gate_callee (f := 13) rfl ?_); refine goesL_ (some 92) rfl rfl Tryd.func13 (by kernel_rfl) rfl #[.int .i64 (wrap64 (a0 + 86400))] rfl (by (try simp only [List.map_toArray, List.map_cons, List.map_nil]); first | done | rfl | (simp only [List.length_drop, List.length_take]; rfl)) ?_; (with_reducible refine (datetime_Of.calls (wrap64 (a0 + 86400)) t246 t247 t248 t249 t250 t251 t252 _ A26.out).mono ?_); rintro e w33 ⟨rfl, hb⟩; refine ⟨_, rfl, ?_⟩; have n0_ := Aside0.mk (blk_below (g := gb245) (o := .cells #[.int .i64 t238, .int .i64 t239, .int .i64 t240, .int .i64 t241, .int .i64 t242, .int .i64 t243, .int .i64 t244] 23 (0, 0)) (by (with_reducible repeat (first | refine blk_drewN ?_ _ | refine blk_drew ?_ | refine blk_alloc ?_ _)); refine blk_put (cs := #[.int .i64 t238, .int .i64 t239, .int .i64 t240, .int .i64 t241, .int .i64 t242, .int .i64 t243, .int .i64 0]) ?_ 6 _ rfl; (with_reducible repeat (first | refine blk_drewN ?_ _ | refine blk_drew ?_ | refine blk_alloc ?_ _)); refine blk_put (cs := #[.int .i64 t238, .int .i64 t239, .int .i64 t240, .int .i64 t241, .int .i64 t242, .int .i64 0, .int .i64 0]) ?_ 5 _ rfl; (with_reducible repeat (first | refine blk_drewN ?_ _ | refine blk_drew ?_ | refine blk_alloc ?_ _)); refine blk_put (cs := #[.int .i64 t238, .int .i64 t239, .int .i64 t240, .int .i64 t241, .int .i64 0, .int .i64 0, .int .i64 0]) ?_ 4 _ rfl; (with_reducible repeat (first | refine blk_drewN ?_ _ | refine blk_drew ?_ | refine blk_alloc ?_ _)); refine blk_put (cs := #[.int .i64 t238, .int .i64 t239, .int .i64 t240, .int .i64 0, .int .i64 0, .int .i64 0, .int .i64 0]) ?_ 3 _ rfl; (with_reducible repeat (first | refine blk_drewN ?_ _ | refine blk_drew ?_ | refine blk_alloc ?_ _)); refine blk_put (cs := #[.int .i64 t238, .int .i64 t239, .int .i64 0, .int .i64 0, .int .i64 0, .int .i64 0, .int .i64 0]) ?_ 2 _ rfl; (with_reducible repeat (first | refine blk_drewN ?_ _ | refine blk_drew ?_ | refine blk_alloc ?_ _)); refine blk_put (cs := #[.int .i64 t238, .int .i64 0, .int .i64 0, .int .i64 0, .int .i64 0, .int .i64 0, .int .i64 0]) ?_ 1 _ rfl; (with_reducible repeat (first | refine blk_drewN ?_ _ | refine blk_drew ?_ | refine blk_alloc ?_ _)); refine blk_put (cs := #[.int .i64 0, .int .i64 0, .int .i64 0, .int .i64 0, .int .i64 0, .int .i64 0, .int .i64 0]) ?_ 0 _ rfl; (with_reducible repeat (first | refine blk_drewN ?_ _ | refine blk_drew ?_ | refine blk_alloc ?_ _)); exact BK245.out) hb); have n1_ := Aside0.mk (below_step (by repeat (first | (with_reducible first | exact HB.out | apply below_alloc | apply pw_below_drewN | apply below_drew1 | refine below_set ?_ GE245.out) | exact HB.out)) hb); clear BK245; clear HB; have BK245 := n0_; have HB := n1_; clear n0_ n1_; (try clear hb); (try clear hb2); (try clear hk); (try clear hi)) | ((with_reducible refine gate_dst (N := 10) rfl ?_); refine box_event ?hg (N := 10) ?hd (cs := #[.int .i64 0, .int .i64 0, .int .i64 0, .int .i64 0, .int .i64 0, .int .i64 0, .int .i64 0]) (t := 23) ?hr ?_; (case hd => rfl); (case hg => rfl); (case hr => first | (go_simp; done) | (go_simp; rfl)); intro gb253 hg w34 hbox hb; have n0_ := Aside0.mk (blk_below (g := gb245) (o := .cells #[.int .i64 t238, .int .i64 t239, .int .i64 t240, .int .i64 t241, .int .i64 t242, .int .i64 t243, .int .i64 t244] 23 (0, 0)) (by (with_reducible repeat (first | refine blk_drewN ?_ _ | refine blk_drew ?_ | refine blk_alloc ?_ _)); exact BK245.out) hb); have n1_ := Aside0.mk (below_step (by repeat (first | (with_reducible first | exact HB.out | apply below_alloc | apply pw_below_drewN | apply below_drew1 | refine below_set ?_ GE245.out) | exact HB.out)) hb); have n2_ := Aside0.mk (hbox); have n3_ := Aside0.mk ((by rw [hg]; exact (below_size (by repeat (first | (with_reducible first | exact HB.out | apply below_alloc | apply pw_below_drewN | apply below_drew1 | refine below_set ?_ GE245.out) | exact HB.out))) : w.heap.size ≤ gb253)); have n4_ := Aside0.mk ((by rw [hg]; exact (below_size (by repeat (first | (with_reducible first | exact HB.out | apply below_alloc | apply pw_below_drewN | apply below_drew1 | refine below_set ?_ GE245.out) | exact HB.out))) : w.heap.size ≤ gb253)); have n5_ := Aside0.mk ((by rw [hg]; exact Nat.ne_of_lt (blk_lt (g := gb245) (o := .cells #[.int .i64 t238, .int .i64 t239, .int .i64 t240, .int .i64 t241, .int .i64 t242, .int .i64 t243, .int .i64 t244] 23 (0, 0)) (by (with_reducible repeat (first | refine blk_drewN ?_ _ | refine blk_drew ?_ | refine blk_alloc ?_ _)); exact BK245.out)) : gb245 ≠ gb253)); have n6_ := Aside0.mk ((by rw [hg]; exact Nat.ne_of_gt (blk_lt (g := gb245) (o := .cells #[.int .i64 t238, .int .i64 t239, .int .i64 t240, .int .i64 t241, .int .i64 t242, .int .i64 t243, .int .i64 t244] 23 (0, 0)) (by (with_reducible repeat (first | refine blk_drewN ?_ _ | refine blk_drew ?_ | refine blk_alloc ?_ _)); exact BK245.out)) : gb253 ≠ gb245)); clear BK245; clear HB; have BK245 := n0_; have HB := n1_; have BK253 := n2_; have GW253 := n3_; have GE253 := n4_; have NB245_253 := n5_; have NB253_245 := n6_; clear n0_ n1_ n2_ n3_ n4_ n5_ n6_; clear hb hbox hg; have hnb35 := NB253_245.out; have hnc35 := NB245_253.out; have hcz36_0 : w34.cell? ⟨gb253, 0, none⟩ = some (.int .i64 0) := (blk_cell BK253.out 0).trans rfl; have hcz36_1 : w34.cell? ⟨gb253, 1, none⟩ = some (.int .i64 0) := (blk_cell BK253.out 1).trans rfl; have hcz36_2 : w34.cell? ⟨gb253, 2, none⟩ = some (.int .i64 0) := (blk_cell BK253.out 2).trans rfl; have hcz36_3 : w34.cell? ⟨gb253, 3, none⟩ = some (.int .i64 0) := (blk_cell BK253.out 3).trans rfl; have hcz36_4 : w34.cell? ⟨gb253, 4, none⟩ = some (.int .i64 0) := (blk_cell BK253.out 4).trans rfl; have hcz36_5 : w34.cell? ⟨gb253, 5, none⟩ = some (.int .i64 0) := (blk_cell BK253.out 5).trans rfl; have hcz36_6 : w34.cell? ⟨gb253, 6, none⟩ = some (.int .i64 0) := (blk_cell BK253.out 6).trans rfl; have hfz36_0 := blk_frozen BK253.out 0; have hfz36_1 := blk_frozen BK253.out 1; have hfz36_2 := blk_frozen BK253.out 2; have hfz36_3 := blk_frozen BK253.out 3; have hfz36_4 := blk_frozen BK253.out 4; have hfz36_5 := blk_frozen BK253.out 5; have hfz36_6 := blk_frozen BK253.out 6; have hcz37_0 : w34.cell? ⟨gb245, 0, none⟩ = some (.int .i64 t238) := (blk_cell BK245.out 0).trans rfl; have hcz37_1 : w34.cell? ⟨gb245, 1, none⟩ = some (.int .i64 t239) := (blk_cell BK245.out 1).trans rfl; have hcz37_2 : w34.cell? ⟨gb245, 2, none⟩ = some (.int .i64 t240) := (blk_cell BK245.out 2).trans rfl; have hcz37_3 : w34.cell? ⟨gb245, 3, none⟩ = some (.int .i64 t241) := (blk_cell BK245.out 3).trans rfl; have hcz37_4 : w34.cell? ⟨gb245, 4, none⟩ = some (.int .i64 t242) := (blk_cell BK245.out 4).trans rfl; have hcz37_5 : w34.cell? ⟨gb245, 5, none⟩ = some (.int .i64 t243) := (blk_cell BK245.out 5).trans rfl; have hcz37_6 : w34.cell? ⟨gb245, 6, none⟩ = some (.int .i64 t244) := (blk_cell BK245.out 6).trans rfl; have hfz37_0 := blk_frozen BK245.out 0; have hfz37_1 := blk_frozen BK245.out 1; have hfz37_2 := blk_frozen BK245.out 2; have hfz37_3 := blk_frozen BK245.out 3; have hfz37_4 := blk_frozen BK245.out 4; have hfz37_5 := blk_frozen BK245.out 5; have hfz37_6 := blk_frozen BK245.out 6))
                        go_ret
                        exact ⟨by first | rfl | (simp [errW_none, errW_some] <;> rfl) | (simp [*, errW_none, errW_some] <;> rfl), by repeat (first | (with_reducible first | exact HB.out | apply below_alloc | apply pw_below_drewN | apply below_drew1 | refine below_set ?_ GE245.out | refine below_set ?_ GE253.out) | exact HB.out)⟩
                      · rw [if_neg c29] at H
                        exact absurd H (by simp)
                    · rw [if_neg c28] at H
                      exact absurd H (by simp)
                  · rw [if_neg c27] at H
                    exact absurd H (by simp)
  · replace c4 := Bool.eq_false_iff.mpr c4
    subst c4
    have H1 : (none) = some r := by rw [if_neg (show ¬ (false = true) by decide)] at H; exact H
    clear H
    have H := H1
    clear H1
    exact absurd H (by simp)

/-- THE ONE PURE STATEMENT of zoneinfolaw05_DatetimeOrder: yours. -/
def zoneinfolaw05_DatetimeOrder.Pure : Prop := ∀ (a0 : Int) (a1 : Int), (Lit.int .i64 a0).wf = true → (Lit.int .i64 a1).wf = true → ∃ k, zoneinfolaw05_DatetimeOrder.f k a0 a1 = some true
theorem zoneinfolaw05_DatetimeOrder.walk (P : zoneinfolaw05_DatetimeOrder.Pure) (a0 : Int) (a1 : Int) (w : World) (hgl : GL w) (w0 : (Lit.int .i64 a0).wf = true) (w1 : (Lit.int .i64 a1).wf = true) :
    Calls Tryd.prog 5 #[.int .i64 a0, .int .i64 a1] w fun e w' => e = .returned (.bool true) ∧ Below w.heap.size w w' := by
  obtain ⟨k, h⟩ := P a0 a1 w0 w1
  refine (zoneinfolaw05_DatetimeOrder.calls k a0 a1 true w hgl h).mono ?_
  rintro e w' ⟨rfl, hd⟩
  exact ⟨rfl, hd⟩

end Go.Proofs.YtmfffkmnddeajaaDoor.G
