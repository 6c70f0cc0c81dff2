/- Written by a program of this session for this seat: contracts of the functions that its laws reach, or the row of a law over its plain part. -/
import Derived.Test.YtcghocecejgeiaaGx0
import Derived.Test.YtcghocecejgeiaaGx1
import Derived.Test.YtcghocecejgeiaaGx2
import Derived.Test.YtcghocecejgeiaaGx3
import Derived.Test.YtcghocecejgeiaaGx4
namespace Go.Proofs.Ytcghocecejgeiaa.G
open Go.RowKit Go.Proofs.YtcghocecejgeiaaW.PrintWords Go.Proofs.YtcghocecejgeiaaW.PrintLast Go.Proofs.YtcghocecejgeiaaW.PrintMore
attribute [local go_sem] max2_int min2_int max_two min_two max_three min_three max_four min_four   -- for this text's walks alone
set_option linter.unusedVariables false
set_option linter.unusedSimpArgs false

/-! ### zoneinfolaw15_TransitionsMatchReference: function 3 -/
def zoneinfolaw15_TransitionsMatchReference.j0 : Nat → List Int → List Int → Bool → Bool → Option (Bool)
  | 0, _, _, _, _ => none
  | k + 1, x0, x1, x2, x20 => if x20 = true then ((zoneinfolaw15_awake.f k).bind fun t218 => (some t218)) else ((zoneinforef14_Size.f x2).bind fun t219 => (if t219 = 0 then (none) else (if 0 ≤ (wrap64 ((wrap64 ((x0.length : Int) / t219)) * t219)) then (if (wrap64 ((wrap64 ((x0.length : Int) / t219)) * t219)) ≤ (x0.length : Int) then ((transitions_Decode.f k (x0.take ((wrap64 ((wrap64 ((x0.length : Int) / t219)) * t219)) : Int).toNat) t219).bind fun t221 => ((zoneinforef15_Decode.f k (x0.take ((wrap64 ((wrap64 ((x0.length : Int) / t219)) * t219)) : Int).toNat) t219).bind fun t224 => ((zoneinforef15_Same.f k t221 t224).bind fun t227 => (if t227 = true then ((transitions_Encode.f k x1 t219).bind fun t228 => ((zoneinforef15_Encode.f k x1 t219).bind fun t231 => ((zoneinforef01_Same.f k t228 t231).bind fun t234 => (if t234 = true then ((transitions_Descent.f x1).bind fun t235 => ((zoneinforef15_Descent.f k x1).bind fun t236 => (if t235 = t236 then ((transitions_Fit.f k x1 t219).bind fun t237 => ((zoneinforef15_Fit.f k x1 t219).bind fun t238 => (some (t237 == t238)))) else (none)))) else (none))))) else (none))))) else (none)) else (none))))
def zoneinfolaw15_TransitionsMatchReference.f (k : Nat) (l0 : List Int) (l1 : List Int) (a2 : Bool) : Option (Bool) := (zoneinfolaw15_awake.f k).bind fun t217 => (if t217 = true then (if (l0.length : Int) > 1000 then (zoneinfolaw15_TransitionsMatchReference.j0 k l0 l1 a2 true) else (zoneinfolaw15_TransitionsMatchReference.j0 k l0 l1 a2 (decide ((l1.length : Int) > 200)))) else (zoneinfolaw15_TransitionsMatchReference.j0 k l0 l1 a2 true))
theorem zoneinfolaw15_TransitionsMatchReference.mono_l : ∀ k, (∀ y0 y1 y2 y3, LeO (zoneinfolaw15_TransitionsMatchReference.j0 k y0 y1 y2 y3) (zoneinfolaw15_TransitionsMatchReference.j0 (k + 1) y0 y1 y2 y3))
  | 0 => fun _ _ _ _ r h => by simp [zoneinfolaw15_TransitionsMatchReference.j0] at h
  | k + 1 => by
    have ih0 := zoneinfolaw15_TransitionsMatchReference.mono_l k
    · intro y0 y1 y2 y3
      unfold zoneinfolaw15_TransitionsMatchReference.j0
      repeat' first
      | (with_reducible exact ih0 _ _ _ _)
      | (with_reducible exact transitions_Decode.mono _ _ _)
      | (with_reducible exact transitions_Encode.mono _ _ _)
      | (with_reducible exact transitions_Fit.mono _ _ _)
      | (with_reducible exact zoneinfolaw15_awake.mono _)
      | (with_reducible exact zoneinforef01_Same.mono _ _ _)
      | (with_reducible exact zoneinforef15_Decode.mono _ _ _)
      | (with_reducible exact zoneinforef15_Descent.mono _ _)
      | (with_reducible exact zoneinforef15_Encode.mono _ _ _)
      | (with_reducible exact zoneinforef15_Fit.mono _ _ _)
      | (with_reducible exact zoneinforef15_Same.mono _ _ _)
      | (with_reducible exact LeO.refl _)
      | (with_reducible exact LeO.none _)
      | (with_reducible refine LeO.ite ?_ ?_)
      | (with_reducible refine LeO.bind ?_ (fun _ => ?_))
      | exact ih0 _ _ _ _
      | exact transitions_Decode.mono _ _ _
      | exact transitions_Encode.mono _ _ _
      | exact transitions_Fit.mono _ _ _
      | exact zoneinfolaw15_awake.mono _
      | exact zoneinforef01_Same.mono _ _ _
      | exact zoneinforef15_Decode.mono _ _ _
      | exact zoneinforef15_Descent.mono _ _
      | exact zoneinforef15_Encode.mono _ _ _
      | exact zoneinforef15_Fit.mono _ _ _
      | exact zoneinforef15_Same.mono _ _ _
      | exact LeO.none _
      | refine LeO.ite ?_ ?_
      | refine LeO.bind ?_ (fun _ => ?_)
theorem zoneinfolaw15_TransitionsMatchReference.mono : ∀ a0 a1 a2 k, LeO (zoneinfolaw15_TransitionsMatchReference.f k a0 a1 a2) (zoneinfolaw15_TransitionsMatchReference.f (k + 1) a0 a1 a2) := by
  intro a0 a1 a2 k
  have ih0 := zoneinfolaw15_TransitionsMatchReference.mono_l k
  unfold zoneinfolaw15_TransitionsMatchReference.f
  repeat' first
      | (with_reducible exact ih0 _ _ _ _)
      | (with_reducible exact transitions_Decode.mono _ _ _)
      | (with_reducible exact transitions_Encode.mono _ _ _)
      | (with_reducible exact transitions_Fit.mono _ _ _)
      | (with_reducible exact zoneinfolaw15_awake.mono _)
      | (with_reducible exact zoneinforef01_Same.mono _ _ _)
      | (with_reducible exact zoneinforef15_Decode.mono _ _ _)
      | (with_reducible exact zoneinforef15_Descent.mono _ _)
      | (with_reducible exact zoneinforef15_Encode.mono _ _ _)
      | (with_reducible exact zoneinforef15_Fit.mono _ _ _)
      | (with_reducible exact zoneinforef15_Same.mono _ _ _)
      | (with_reducible exact LeO.refl _)
      | (with_reducible exact LeO.none _)
      | (with_reducible refine LeO.ite ?_ ?_)
      | (with_reducible refine LeO.bind ?_ (fun _ => ?_))
      | exact ih0 _ _ _ _
      | exact transitions_Decode.mono _ _ _
      | exact transitions_Encode.mono _ _ _
      | exact transitions_Fit.mono _ _ _
      | exact zoneinfolaw15_awake.mono _
      | exact zoneinforef01_Same.mono _ _ _
      | exact zoneinforef15_Decode.mono _ _ _
      | exact zoneinforef15_Descent.mono _ _
      | exact zoneinforef15_Encode.mono _ _ _
      | exact zoneinforef15_Fit.mono _ _ _
      | exact zoneinforef15_Same.mono _ _ _
      | exact LeO.none _
      | refine LeO.ite ?_ ?_
      | refine LeO.bind ?_ (fun _ => ?_)
set_option maxHeartbeats 8000000 in
set_option maxRecDepth 100000 in
theorem zoneinfolaw15_TransitionsMatchReference.calls (k : Nat) (A0 : Option Addr) (c0 : Nat) (l0 : List Int) (A1 : Option Addr) (c1 : Nat) (l1 : List Int) (a2 : Bool) (r : Bool) (w : World) (hr0 : Kd.C (Kd.int .u8) w A0 l0.length l0) (hc0 : l0.length ≤ c0) (hr1 : Kd.C (Kd.int .i64) w A1 l1.length l1) (hc1 : l1.length ≤ c1) (h : zoneinfolaw15_TransitionsMatchReference.f k l0 l1 a2 = some r) :
    Calls Try.prog 3 #[.slice A0 l0.length c0, .slice A1 l1.length c1, .bool a2] w fun e w' => e = .returned (.bool r) ∧ Below w.heap.size w w' := by
  have HR0 := Aside0.mk hr0
  have HC0 := Aside0.mk hc0
  clear hr0 hc0
  have HR1 := Aside0.mk hr1
  have HC1 := Aside0.mk hc1
  clear hr1 hc1
  have HB := Aside0.mk (Below.refl w.heap.size w)
  have H : ((zoneinfolaw15_awake.f k).bind fun t217 => (if t217 = true then (if (l0.length : Int) > 1000 then (zoneinfolaw15_TransitionsMatchReference.j0 k l0 l1 a2 true) else (zoneinfolaw15_TransitionsMatchReference.j0 k l0 l1 a2 (decide ((l1.length : Int) > 200)))) else (zoneinfolaw15_TransitionsMatchReference.j0 k l0 l1 a2 true))) = some r := h
  clear h
  have HC4 := Aside0.mk H
  clear H
  go_enter Try.func3, Try.ntmps3
  go_upto_region 1 with (fail)
  go_cut [20] (fun v20 wc => ∃ (kq : Nat) (x20_3 : Bool), v20 = .bool x20_3 ∧ Aside0 (zoneinfolaw15_TransitionsMatchReference.j0 kq l0 l1 a2 x20_3 = some r) ∧ Aside0 (kq ≤ k) ∧ Aside0 (Below w.heap.size w wc))
  case first =>
    have H := HC4.out
    clear HC4
    replace H := Option.bind_eq_some_iff.mp H
    obtain ⟨t217, A50, H⟩ := H
    replace H : (if t217 = true then (if (l0.length : Int) > 1000 then (zoneinfolaw15_TransitionsMatchReference.j0 k l0 l1 a2 true) else (zoneinfolaw15_TransitionsMatchReference.j0 k l0 l1 a2 (decide ((l1.length : Int) > 200)))) else (zoneinfolaw15_TransitionsMatchReference.j0 k l0 l1 a2 true)) = some r := H
    have A5 := Aside0.mk A50
    clear A50
    by_cases c6 : t217 = true
    · subst c6
      have H1 : (if (l0.length : Int) > 1000 then (zoneinfolaw15_TransitionsMatchReference.j0 k l0 l1 a2 true) else (zoneinfolaw15_TransitionsMatchReference.j0 k l0 l1 a2 (decide ((l1.length : Int) > 200)))) = some r := by rw [if_pos rfl] at H; exact H
      clear H
      have H := H1
      clear H1
      by_cases c7 : (l0.length : Int) > 1000
      · rw [if_pos c7] at H
        have c7b0 : decide (1000 < (l0.length : Int)) = true := decide_eq_true c7
        have c7b1 : decide (1000 < l0.length) = true := decide_eq_true (by omega)
        clear c7
        (first | rw [c7b0] | (simp only [i64_w, i32_w]; rw [c7b0]) | skip)
        have H' := Aside0.mk H
        clear H
        go_wp2_with (first | (go_at_call 7; (with_reducible refine (zoneinfolaw15_awake.calls k  true _ A5.out).mono ?_); rintro e w8 ⟨rfl, hb⟩; have n0_ := Aside0.mk (below_step (by repeat (first | (with_reducible first | exact HB.out | apply below_alloc | apply pw_below_drewN | apply below_drew1) | exact HB.out)) hb); clear HB; have HB := n0_; clear n0_; (try clear hb); (try clear hb2); (try clear hk); (try clear hi)))
        go_meet
        case rel => exact ⟨_, (true), (by first | rfl | (simp; done) | (simp [*]; done)), H', ⟨by first | omega | exact Nat.le_refl _⟩, ⟨by repeat (first | (with_reducible first | exact HB.out | apply below_alloc | apply pw_below_drewN | apply below_drew1) | exact HB.out)⟩⟩
      · rw [if_neg c7] at H
        have c7b0 : decide (1000 < (l0.length : Int)) = false := decide_eq_false c7
        have c7b1 : decide (1000 < l0.length) = false := decide_eq_false (by omega)
        clear c7
        (first | rw [c7b0] | (simp only [i64_w, i32_w]; rw [c7b0]) | skip)
        have H' := Aside0.mk H
        clear H
        go_wp2_with (first | (go_at_call 7; (with_reducible refine (zoneinfolaw15_awake.calls k  true _ A5.out).mono ?_); rintro e w9 ⟨rfl, hb⟩; have n0_ := Aside0.mk (below_step (by repeat (first | (with_reducible first | exact HB.out | apply below_alloc | apply pw_below_drewN | apply below_drew1) | exact HB.out)) hb); clear HB; have HB := n0_; clear n0_; (try clear hb); (try clear hb2); (try clear hk); (try clear hi)))
        go_meet
        case rel => exact ⟨_, (decide ((l1.length : Int) > 200)), (by first | rfl | (simp; done) | (simp [*]; done)), H', ⟨by first | omega | exact Nat.le_refl _⟩, ⟨by repeat (first | (with_reducible first | exact HB.out | apply below_alloc | apply pw_below_drewN | apply below_drew1) | exact HB.out)⟩⟩
    · replace c6 := Bool.eq_false_iff.mpr c6
      subst c6
      have H1 : (zoneinfolaw15_TransitionsMatchReference.j0 k l0 l1 a2 true) = some r := by rw [if_neg (show ¬ (false = true) by decide)] at H; exact H
      clear H
      have H := H1
      clear H1
      have H' := Aside0.mk H
      clear H
      go_wp2_with (first | (go_at_call 7; (with_reducible refine (zoneinfolaw15_awake.calls k  false _ A5.out).mono ?_); rintro e w10 ⟨rfl, hb⟩; have n0_ := Aside0.mk (below_step (by repeat (first | (with_reducible first | exact HB.out | apply below_alloc | apply pw_below_drewN | apply below_drew1) | exact HB.out)) hb); clear HB; have HB := n0_; clear n0_; (try clear hb); (try clear hb2); (try clear hk); (try clear hi)))
      go_meet
      case rel => exact ⟨_, (true), (by first | rfl | (simp; done) | (simp [*]; done)), H', ⟨by first | omega | exact Nat.le_refl _⟩, ⟨by repeat (first | (with_reducible first | exact HB.out | apply below_alloc | apply pw_below_drewN | apply below_drew1) | exact HB.out)⟩⟩
  case rest =>
    clear HC4
    try clear c1
    try clear p2
    try clear c3
    try clear c6
    try clear c7
    try clear c7b0
    try clear c7b1
    obtain ⟨kq, x20_3, rfl, HA, HJ3, HB⟩ := hcut
    cases kq with
    | zero => exact absurd HA.out (by simp [zoneinfolaw15_TransitionsMatchReference.j0])
    | succ kj3 =>
      have H := HA.out
      clear HA
      simp only [zoneinfolaw15_TransitionsMatchReference.j0] at H
      by_cases c11 : x20_3 = true
      · subst c11
        have H1 : ((zoneinfolaw15_awake.f kj3).bind fun t218 => (some t218)) = some r := by rw [if_pos rfl] at H; exact H
        clear H
        have H := H1
        clear H1
        replace H := Option.bind_eq_some_iff.mp H
        obtain ⟨t218, A120, H⟩ := H
        replace H : (some t218) = some r := H
        have A12 := Aside0.mk A120
        clear A120
        obtain rfl := Option.some.inj H
        go_wp2_with (first | ((with_reducible refine gate_callee (f := 7) rfl ?_); refine goesL_ (some 21) rfl rfl Try.func7 (by kernel_rfl) rfl #[] rfl (by (try simp only [List.map_toArray, List.map_cons, List.map_nil]); first | done | rfl | (simp only [List.length_drop, List.length_take]; rfl)) ?_; (with_reducible refine (zoneinfolaw15_awake.calls kj3  t218 _ A12.out).mono ?_); rintro e w13 ⟨rfl, hb⟩; refine ⟨_, rfl, ?_⟩; have n0_ := Aside0.mk (below_step (by repeat (first | (with_reducible first | exact HB.out | apply below_alloc | apply pw_below_drewN | apply below_drew1) | exact HB.out)) hb); clear HB; have HB := n0_; clear n0_; (try clear hb); (try clear hb2); (try clear hk); (try clear hi)))
        go_ret
        exact ⟨by first | rfl | (simp [errW_none, errW_some] <;> rfl) | (simp [*, errW_none, errW_some] <;> rfl), by repeat (first | (with_reducible first | exact HB.out | apply below_alloc | apply pw_below_drewN | apply below_drew1) | exact HB.out)⟩
      · replace c11 := Bool.eq_false_iff.mpr c11
        subst c11
        have H1 : ((zoneinforef14_Size.f a2).bind fun t219 => (if t219 = 0 then (none) else (if 0 ≤ (wrap64 ((wrap64 ((l0.length : Int) / t219)) * t219)) then (if (wrap64 ((wrap64 ((l0.length : Int) / t219)) * t219)) ≤ (l0.length : Int) then ((transitions_Decode.f kj3 (l0.take ((wrap64 ((wrap64 ((l0.length : Int) / t219)) * t219)) : Int).toNat) t219).bind fun t221 => ((zoneinforef15_Decode.f kj3 (l0.take ((wrap64 ((wrap64 ((l0.length : Int) / t219)) * t219)) : Int).toNat) t219).bind fun t224 => ((zoneinforef15_Same.f kj3 t221 t224).bind fun t227 => (if t227 = true then ((transitions_Encode.f kj3 l1 t219).bind fun t228 => ((zoneinforef15_Encode.f kj3 l1 t219).bind fun t231 => ((zoneinforef01_Same.f kj3 t228 t231).bind fun t234 => (if t234 = true then ((transitions_Descent.f l1).bind fun t235 => ((zoneinforef15_Descent.f kj3 l1).bind fun t236 => (if t235 = t236 then ((transitions_Fit.f kj3 l1 t219).bind fun t237 => ((zoneinforef15_Fit.f kj3 l1 t219).bind fun t238 => (some (t237 == t238)))) else (none)))) else (none))))) else (none))))) else (none)) else (none)))) = some r := by rw [if_neg (show ¬ (false = true) by decide)] at H; exact H
        clear H
        have H := H1
        clear H1
        replace H := Option.bind_eq_some_iff.mp H
        obtain ⟨t219, A140, H⟩ := H
        replace H : (if t219 = 0 then (none) else (if 0 ≤ (wrap64 ((wrap64 ((l0.length : Int) / t219)) * t219)) then (if (wrap64 ((wrap64 ((l0.length : Int) / t219)) * t219)) ≤ (l0.length : Int) then ((transitions_Decode.f kj3 (l0.take ((wrap64 ((wrap64 ((l0.length : Int) / t219)) * t219)) : Int).toNat) t219).bind fun t221 => ((zoneinforef15_Decode.f kj3 (l0.take ((wrap64 ((wrap64 ((l0.length : Int) / t219)) * t219)) : Int).toNat) t219).bind fun t224 => ((zoneinforef15_Same.f kj3 t221 t224).bind fun t227 => (if t227 = true then ((transitions_Encode.f kj3 l1 t219).bind fun t228 => ((zoneinforef15_Encode.f kj3 l1 t219).bind fun t231 => ((zoneinforef01_Same.f kj3 t228 t231).bind fun t234 => (if t234 = true then ((transitions_Descent.f l1).bind fun t235 => ((zoneinforef15_Descent.f kj3 l1).bind fun t236 => (if t235 = t236 then ((transitions_Fit.f kj3 l1 t219).bind fun t237 => ((zoneinforef15_Fit.f kj3 l1 t219).bind fun t238 => (some (t237 == t238)))) else (none)))) else (none))))) else (none))))) else (none)) else (none))) = some r := H
        have A14 := Aside0.mk A140
        clear A140
        by_cases c15 : t219 = 0
        · rw [if_pos c15] at H
          exact absurd H (by simp)
        · rw [if_neg c15] at H
          have c15b0 : (t219 == 0) = false := beq_eq_false_iff_ne.mpr c15
          have c15b1 : (t219 != 0) = true := bne_iff_ne.mpr c15
          obtain ⟨ji16, hji16⟩ : ∃ j_ : Int, (wrap64 ((wrap64 ((l0.length : Int) / t219)) * t219)) = j_ := ⟨_, rfl⟩
          replace H : (if 0 ≤ (ji16) then (if (ji16) ≤ (l0.length : Int) then ((transitions_Decode.f kj3 (l0.take ((ji16) : Int).toNat) t219).bind fun t221 => ((zoneinforef15_Decode.f kj3 (l0.take ((ji16) : Int).toNat) t219).bind fun t224 => ((zoneinforef15_Same.f kj3 t221 t224).bind fun t227 => (if t227 = true then ((transitions_Encode.f kj3 l1 t219).bind fun t228 => ((zoneinforef15_Encode.f kj3 l1 t219).bind fun t231 => ((zoneinforef01_Same.f kj3 t228 t231).bind fun t234 => (if t234 = true then ((transitions_Descent.f l1).bind fun t235 => ((zoneinforef15_Descent.f kj3 l1).bind fun t236 => (if t235 = t236 then ((transitions_Fit.f kj3 l1 t219).bind fun t237 => ((zoneinforef15_Fit.f kj3 l1 t219).bind fun t238 => (some (t237 == t238)))) else (none)))) else (none))))) else (none))))) else (none)) else (none)) = some r := by first | (rw [hji16] at H; exact H) | (simp only [hji16] at H ⊢; exact H)
          (try rw [hji16] at A14)
          have hji16w : (IntKind.i64.wrap ((wrap64 ((l0.length : Int) / t219)) * t219)) = ji16 := (i64_w _).trans hji16
          by_cases c17 : 0 ≤ (ji16)
          · rw [if_pos c17] at H
            have c17b0 := eq_true c17
            have c17b1 : decide (0 ≤ (ji16)) = true := decide_eq_true c17
            clear c17
            by_cases c18 : (ji16) ≤ (l0.length : Int)
            · rw [if_pos c18] at H
              have c18b0 := eq_true c18
              have c18b1 : decide ((ji16) ≤ (l0.length : Int)) = true := decide_eq_true c18
              clear c18
              replace H := Option.bind_eq_some_iff.mp H
              obtain ⟨t221, A190, H⟩ := H
              replace H : ((zoneinforef15_Decode.f kj3 (l0.take ((ji16) : Int).toNat) t219).bind fun t224 => ((zoneinforef15_Same.f kj3 t221 t224).bind fun t227 => (if t227 = true then ((transitions_Encode.f kj3 l1 t219).bind fun t228 => ((zoneinforef15_Encode.f kj3 l1 t219).bind fun t231 => ((zoneinforef01_Same.f kj3 t228 t231).bind fun t234 => (if t234 = true then ((transitions_Descent.f l1).bind fun t235 => ((zoneinforef15_Descent.f kj3 l1).bind fun t236 => (if t235 = t236 then ((transitions_Fit.f kj3 l1 t219).bind fun t237 => ((zoneinforef15_Fit.f kj3 l1 t219).bind fun t238 => (some (t237 == t238)))) else (none)))) else (none))))) else (none)))) = some r := H
              have A19 := Aside0.mk A190
              clear A190
              replace H := Option.bind_eq_some_iff.mp H
              obtain ⟨t224, A200, H⟩ := H
              replace H : ((zoneinforef15_Same.f kj3 t221 t224).bind fun t227 => (if t227 = true then ((transitions_Encode.f kj3 l1 t219).bind fun t228 => ((zoneinforef15_Encode.f kj3 l1 t219).bind fun t231 => ((zoneinforef01_Same.f kj3 t228 t231).bind fun t234 => (if t234 = true then ((transitions_Descent.f l1).bind fun t235 => ((zoneinforef15_Descent.f kj3 l1).bind fun t236 => (if t235 = t236 then ((transitions_Fit.f kj3 l1 t219).bind fun t237 => ((zoneinforef15_Fit.f kj3 l1 t219).bind fun t238 => (some (t237 == t238)))) else (none)))) else (none))))) else (none))) = some r := H
              have A20 := Aside0.mk A200
              clear A200
              replace H := Option.bind_eq_some_iff.mp H
              obtain ⟨t227, A210, H⟩ := H
              replace H : (if t227 = true then ((transitions_Encode.f kj3 l1 t219).bind fun t228 => ((zoneinforef15_Encode.f kj3 l1 t219).bind fun t231 => ((zoneinforef01_Same.f kj3 t228 t231).bind fun t234 => (if t234 = true then ((transitions_Descent.f l1).bind fun t235 => ((zoneinforef15_Descent.f kj3 l1).bind fun t236 => (if t235 = t236 then ((transitions_Fit.f kj3 l1 t219).bind fun t237 => ((zoneinforef15_Fit.f kj3 l1 t219).bind fun t238 => (some (t237 == t238)))) else (none)))) else (none))))) else (none)) = some r := H
              have A21 := Aside0.mk A210
              clear A210
              by_cases c22 : t227 = true
              · subst c22
                have H1 : ((transitions_Encode.f kj3 l1 t219).bind fun t228 => ((zoneinforef15_Encode.f kj3 l1 t219).bind fun t231 => ((zoneinforef01_Same.f kj3 t228 t231).bind fun t234 => (if t234 = true then ((transitions_Descent.f l1).bind fun t235 => ((zoneinforef15_Descent.f kj3 l1).bind fun t236 => (if t235 = t236 then ((transitions_Fit.f kj3 l1 t219).bind fun t237 => ((zoneinforef15_Fit.f kj3 l1 t219).bind fun t238 => (some (t237 == t238)))) else (none)))) else (none))))) = some r := by rw [if_pos rfl] at H; exact H
                clear H
                have H := H1
                clear H1
                replace H := Option.bind_eq_some_iff.mp H
                obtain ⟨t228, A230, H⟩ := H
                replace H : ((zoneinforef15_Encode.f kj3 l1 t219).bind fun t231 => ((zoneinforef01_Same.f kj3 t228 t231).bind fun t234 => (if t234 = true then ((transitions_Descent.f l1).bind fun t235 => ((zoneinforef15_Descent.f kj3 l1).bind fun t236 => (if t235 = t236 then ((transitions_Fit.f kj3 l1 t219).bind fun t237 => ((zoneinforef15_Fit.f kj3 l1 t219).bind fun t238 => (some (t237 == t238)))) else (none)))) else (none)))) = some r := H
                have A23 := Aside0.mk A230
                clear A230
                replace H := Option.bind_eq_some_iff.mp H
                obtain ⟨t231, A240, H⟩ := H
                replace H : ((zoneinforef01_Same.f kj3 t228 t231).bind fun t234 => (if t234 = true then ((transitions_Descent.f l1).bind fun t235 => ((zoneinforef15_Descent.f kj3 l1).bind fun t236 => (if t235 = t236 then ((transitions_Fit.f kj3 l1 t219).bind fun t237 => ((zoneinforef15_Fit.f kj3 l1 t219).bind fun t238 => (some (t237 == t238)))) else (none)))) else (none))) = some r := H
                have A24 := Aside0.mk A240
                clear A240
                replace H := Option.bind_eq_some_iff.mp H
                obtain ⟨t234, A250, H⟩ := H
                replace H : (if t234 = true then ((transitions_Descent.f l1).bind fun t235 => ((zoneinforef15_Descent.f kj3 l1).bind fun t236 => (if t235 = t236 then ((transitions_Fit.f kj3 l1 t219).bind fun t237 => ((zoneinforef15_Fit.f kj3 l1 t219).bind fun t238 => (some (t237 == t238)))) else (none)))) else (none)) = some r := H
                have A25 := Aside0.mk A250
                clear A250
                by_cases c26 : t234 = true
                · subst c26
                  have H1 : ((transitions_Descent.f l1).bind fun t235 => ((zoneinforef15_Descent.f kj3 l1).bind fun t236 => (if t235 = t236 then ((transitions_Fit.f kj3 l1 t219).bind fun t237 => ((zoneinforef15_Fit.f kj3 l1 t219).bind fun t238 => (some (t237 == t238)))) else (none)))) = some r := by rw [if_pos rfl] at H; exact H
                  clear H
                  have H := H1
                  clear H1
                  replace H := Option.bind_eq_some_iff.mp H
                  obtain ⟨t235, A270, H⟩ := H
                  replace H : ((zoneinforef15_Descent.f kj3 l1).bind fun t236 => (if t235 = t236 then ((transitions_Fit.f kj3 l1 t219).bind fun t237 => ((zoneinforef15_Fit.f kj3 l1 t219).bind fun t238 => (some (t237 == t238)))) else (none))) = some r := H
                  have A27 := Aside0.mk A270
                  clear A270
                  replace H := Option.bind_eq_some_iff.mp H
                  obtain ⟨t236, A280, H⟩ := H
                  replace H : (if t235 = t236 then ((transitions_Fit.f kj3 l1 t219).bind fun t237 => ((zoneinforef15_Fit.f kj3 l1 t219).bind fun t238 => (some (t237 == t238)))) else (none)) = some r := H
                  have A28 := Aside0.mk A280
                  clear A280
                  by_cases c29 : t235 = t236
                  · rw [if_pos c29] at H
                    have c29b0 : (t235 == t236) = true := beq_iff_eq.mpr c29
                    have c29b1 : (t235 != t236) = false := bne_eq_false_iff_eq.mpr c29
                    clear c29
                    replace H := Option.bind_eq_some_iff.mp H
                    obtain ⟨t237, A300, H⟩ := H
                    replace H : ((zoneinforef15_Fit.f kj3 l1 t219).bind fun t238 => (some (t237 == t238))) = some r := H
                    have A30 := Aside0.mk A300
                    clear A300
                    replace H := Option.bind_eq_some_iff.mp H
                    obtain ⟨t238, A310, H⟩ := H
                    replace H : (some (t237 == t238)) = some r := H
                    have A31 := Aside0.mk A310
                    clear A310
                    obtain rfl := Option.some.inj H
                    go_wp2_with (first | ((with_reducible refine gate_callee (f := 8) rfl ?_); refine goesL_ (some 23) rfl rfl Try.func8 (by kernel_rfl) rfl #[.bool a2] rfl (by (try simp only [List.map_toArray, List.map_cons, List.map_nil]); first | done | rfl | (simp only [List.length_drop, List.length_take]; rfl)) ?_; (with_reducible refine (zoneinforef14_Size.calls a2 t219 _ A14.out).mono ?_); rintro e w' ⟨rfl, ⟨nd, rfl⟩⟩; refine ⟨_, rfl, ?_⟩; obtain ⟨i032, hi032, _, hsz32, _⟩ := info_parts info5; obtain ⟨hcut32, hA32, hC32⟩ := print_take_of (P := Try.prog) (Value.int .u8) 0 22 5 .i64 Try.underlying22 hi032 hsz32 A0 c0 l0 (ji16) (of_decide_eq_true (by first | (with_reducible assumption) | assumption)) (of_decide_eq_true (by first | (with_reducible assumption) | assumption)) HC0.out; have HR220 := Aside0.mk (Kd.C_of_reads (h1 := fun _ => rfl) (hA32 _ (Kd.reads_of_C HR0.out))); have HC220 := Aside0.mk hC32; clear hA32 hC32 hi032 hsz32) | (go_at_call 10; (try (rw [← (show (l0.take ((ji16) : Int).toNat).length = ((ji16) : Int).toNat from by (have h_ := of_decide_eq_true (p := (ji16) ≤ (l0.length : Int)) (by assumption)); rw [List.length_take]; omega)])); (with_reducible refine (transitions_Decode.calls kj3 _ _ (l0.take ((ji16) : Int).toNat) t219 t221 _ ?side1 ?side2 A19.out).mono ?_); (case side1 => repeat (first | exact (Kd.C_below HR220.out (by repeat (first | (with_reducible first | exact HB.out | apply below_alloc | apply pw_below_drewN | apply below_drew1) | exact HB.out))) | (with_reducible refine Kd.C_alloc ?_ _) | (with_reducible refine Kd.C_drewN ?_ _) | (with_reducible refine Kd.C_drew ?_))); (case side2 => exact HC220.out); rintro e w33 ⟨v222, rfl, ho0, hb⟩; have n0_ := Aside0.mk (Kd.R_lower ho0 (below_size (by repeat (first | (with_reducible first | exact HB.out | apply below_alloc | apply pw_below_drewN | apply below_drew1) | exact HB.out)))); have n1_ := Aside0.mk (below_step (by repeat (first | (with_reducible first | exact HB.out | apply below_alloc | apply pw_below_drewN | apply below_drew1) | exact HB.out)) hb); clear HB; have HO223 := n0_; have HB := n1_; clear n0_ n1_; (try clear hb); (try clear hb2); (try clear hk); (try clear hi); (try clear ho0)) | (go_at_call 11; (try (rw [← (show (l0.take ((ji16) : Int).toNat).length = ((ji16) : Int).toNat from by (have h_ := of_decide_eq_true (p := (ji16) ≤ (l0.length : Int)) (by assumption)); rw [List.length_take]; omega)])); (with_reducible refine (zoneinforef15_Decode.calls kj3 _ _ (l0.take ((ji16) : Int).toNat) t219 t224 _ ?side1 ?side2 A20.out).mono ?_); (case side1 => repeat (first | exact (Kd.C_below HR220.out HB.out) | (with_reducible refine Kd.C_alloc ?_ _) | (with_reducible refine Kd.C_drewN ?_ _) | (with_reducible refine Kd.C_drew ?_))); (case side2 => exact HC220.out); rintro e w34 ⟨v225, rfl, ho0, hb⟩; have n0_ := Aside0.mk (Kd.R_elder' (by (with_reducible repeat (first | apply Kd.R_alloc | apply Kd.R_drewN | apply Kd.R_drew)); exact HO223.out) (Kd.R_base ho0) hb); have n1_ := Aside0.mk (Kd.R_lower (Kd.R_new' ho0 (Kd.R_lt (by (with_reducible repeat (first | apply Kd.R_alloc | apply Kd.R_drewN | apply Kd.R_drew)); exact HO223.out))) (below_size (by repeat (first | (with_reducible first | exact HB.out | apply below_alloc | apply pw_below_drewN | apply below_drew1) | exact HB.out)))); have n2_ := Aside0.mk (below_step (by repeat (first | (with_reducible first | exact HB.out | apply below_alloc | apply pw_below_drewN | apply below_drew1) | exact HB.out)) hb); clear HO223; clear HB; have HO223 := n0_; have HO226 := n1_; have HB := n2_; clear n0_ n1_ n2_; (try clear hb); (try clear hb2); (try clear hk); (try clear hi); (try clear ho0); obtain ⟨Ao35, co35, eo35⟩ := Kd.R_slice HO223.out; subst eo35; obtain ⟨Ao36, co36, eo36⟩ := Kd.R_slice HO226.out; subst eo36) | (go_at_call 9; (with_reducible refine (zoneinforef15_Same.calls kj3 _ _ t221 _ _ t224 true _ ?side1 ?side2 ?side3 ?side4 A21.out).mono ?_); (case side1 => repeat (first | exact (Kd.R_reads' HO223.out).2.2 | (with_reducible refine Kd.C_alloc ?_ _) | (with_reducible refine Kd.C_drewN ?_ _) | (with_reducible refine Kd.C_drew ?_))); (case side2 => exact (Kd.R_reads' HO223.out).2.1); (case side3 => repeat (first | exact (Kd.R_reads' HO226.out).2.2 | (with_reducible refine Kd.C_alloc ?_ _) | (with_reducible refine Kd.C_drewN ?_ _) | (with_reducible refine Kd.C_drew ?_))); (case side4 => exact (Kd.R_reads' HO226.out).2.1); rintro e w' ⟨rfl, ⟨nd, rfl⟩⟩) | (go_at_call 13; (with_reducible refine (transitions_Encode.calls kj3 _ _ l1 t219 t228 _ ?side1 ?side2 A23.out).mono ?_); (case side1 => repeat (first | exact (Kd.C_below HR1.out (by repeat (first | (with_reducible first | exact HB.out | apply below_alloc | apply pw_below_drewN | apply below_drew1) | exact HB.out))) | (with_reducible refine Kd.C_alloc ?_ _) | (with_reducible refine Kd.C_drewN ?_ _) | (with_reducible refine Kd.C_drew ?_))); (case side2 => exact HC1.out); rintro e w37 ⟨v229, rfl, ho0, hb⟩; have n0_ := Aside0.mk (Kd.R_below (by (with_reducible repeat (first | apply Kd.R_alloc | apply Kd.R_drewN | apply Kd.R_drew)); exact HO223.out) hb); have n1_ := Aside0.mk (Kd.R_below (by (with_reducible repeat (first | apply Kd.R_alloc | apply Kd.R_drewN | apply Kd.R_drew)); exact HO226.out) hb); have n2_ := Aside0.mk (Kd.R_lower ho0 (below_size (by repeat (first | (with_reducible first | exact HB.out | apply below_alloc | apply pw_below_drewN | apply below_drew1) | exact HB.out)))); have n3_ := Aside0.mk (below_step (by repeat (first | (with_reducible first | exact HB.out | apply below_alloc | apply pw_below_drewN | apply below_drew1) | exact HB.out)) hb); clear HO223; clear HO226; clear HB; have HO223 := n0_; have HO226 := n1_; have HO230 := n2_; have HB := n3_; clear n0_ n1_ n2_ n3_; (try clear hb); (try clear hb2); (try clear hk); (try clear hi); (try clear ho0)) | (go_at_call 14; (with_reducible refine (zoneinforef15_Encode.calls kj3 _ _ l1 t219 t231 _ ?side1 ?side2 A24.out).mono ?_); (case side1 => repeat (first | exact (Kd.C_below HR1.out HB.out) | (with_reducible refine Kd.C_alloc ?_ _) | (with_reducible refine Kd.C_drewN ?_ _) | (with_reducible refine Kd.C_drew ?_))); (case side2 => exact HC1.out); rintro e w38 ⟨v232, rfl, ho0, hb⟩; have n0_ := Aside0.mk (Kd.R_below (by (with_reducible repeat (first | apply Kd.R_alloc | apply Kd.R_drewN | apply Kd.R_drew)); exact HO223.out) hb); have n1_ := Aside0.mk (Kd.R_below (by (with_reducible repeat (first | apply Kd.R_alloc | apply Kd.R_drewN | apply Kd.R_drew)); exact HO226.out) hb); have n2_ := Aside0.mk (Kd.R_elder' (by (with_reducible repeat (first | apply Kd.R_alloc | apply Kd.R_drewN | apply Kd.R_drew)); exact HO230.out) (Kd.R_base ho0) hb); have n3_ := Aside0.mk (Kd.R_lower (Kd.R_new' ho0 (Kd.R_lt (by (with_reducible repeat (first | apply Kd.R_alloc | apply Kd.R_drewN | apply Kd.R_drew)); exact HO230.out))) (below_size (by repeat (first | (with_reducible first | exact HB.out | apply below_alloc | apply pw_below_drewN | apply below_drew1) | exact HB.out)))); have n4_ := Aside0.mk (below_step (by repeat (first | (with_reducible first | exact HB.out | apply below_alloc | apply pw_below_drewN | apply below_drew1) | exact HB.out)) hb); clear HO223; clear HO226; clear HO230; clear HB; have HO223 := n0_; have HO226 := n1_; have HO230 := n2_; have HO233 := n3_; have HB := n4_; clear n0_ n1_ n2_ n3_ n4_; (try clear hb); (try clear hb2); (try clear hk); (try clear hi); (try clear ho0); obtain ⟨Ao39, co39, eo39⟩ := Kd.R_slice HO230.out; subst eo39; obtain ⟨Ao40, co40, eo40⟩ := Kd.R_slice HO233.out; subst eo40) | (go_at_call 12; (with_reducible refine (zoneinforef01_Same.calls kj3 _ _ t228 _ _ t231 true _ ?side1 ?side2 ?side3 ?side4 A25.out).mono ?_); (case side1 => repeat (first | exact (Kd.R_reads' HO230.out).2.2 | (with_reducible refine Kd.C_alloc ?_ _) | (with_reducible refine Kd.C_drewN ?_ _) | (with_reducible refine Kd.C_drew ?_))); (case side2 => exact (Kd.R_reads' HO230.out).2.1); (case side3 => repeat (first | exact (Kd.R_reads' HO233.out).2.2 | (with_reducible refine Kd.C_alloc ?_ _) | (with_reducible refine Kd.C_drewN ?_ _) | (with_reducible refine Kd.C_drew ?_))); (case side4 => exact (Kd.R_reads' HO233.out).2.1); rintro e w' ⟨rfl, ⟨nd, rfl⟩⟩) | (go_at_call 15; (with_reducible refine (transitions_Descent.calls _ _ l1 t235 _ ?side1 ?side2 A27.out).mono ?_); (case side1 => repeat (first | exact (Kd.C_below HR1.out (by repeat (first | (with_reducible first | exact HB.out | apply below_alloc | apply pw_below_drewN | apply below_drew1) | exact HB.out))) | (with_reducible refine Kd.C_alloc ?_ _) | (with_reducible refine Kd.C_drewN ?_ _) | (with_reducible refine Kd.C_drew ?_))); (case side2 => exact HC1.out); rintro e w41 ⟨rfl, hb⟩; have n0_ := Aside0.mk (Kd.R_below (by (with_reducible repeat (first | apply Kd.R_alloc | apply Kd.R_drewN | apply Kd.R_drew)); exact HO223.out) hb); have n1_ := Aside0.mk (Kd.R_below (by (with_reducible repeat (first | apply Kd.R_alloc | apply Kd.R_drewN | apply Kd.R_drew)); exact HO226.out) hb); have n2_ := Aside0.mk (Kd.R_below (by (with_reducible repeat (first | apply Kd.R_alloc | apply Kd.R_drewN | apply Kd.R_drew)); exact HO230.out) hb); have n3_ := Aside0.mk (Kd.R_below (by (with_reducible repeat (first | apply Kd.R_alloc | apply Kd.R_drewN | apply Kd.R_drew)); exact HO233.out) hb); have n4_ := Aside0.mk (below_step (by repeat (first | (with_reducible first | exact HB.out | apply below_alloc | apply pw_below_drewN | apply below_drew1) | exact HB.out)) hb); clear HO223; clear HO226; clear HO230; clear HO233; clear HB; have HO223 := n0_; have HO226 := n1_; have HO230 := n2_; have HO233 := n3_; have HB := n4_; clear n0_ n1_ n2_ n3_ n4_; (try clear hb); (try clear hb2); (try clear hk); (try clear hi)) | (go_at_call 16; (with_reducible refine (zoneinforef15_Descent.calls kj3 _ _ l1 t236 _ ?side1 ?side2 A28.out).mono ?_); (case side1 => repeat (first | exact (Kd.C_below HR1.out HB.out) | (with_reducible refine Kd.C_alloc ?_ _) | (with_reducible refine Kd.C_drewN ?_ _) | (with_reducible refine Kd.C_drew ?_))); (case side2 => exact HC1.out); rintro e w' ⟨rfl, ⟨nd, rfl⟩⟩) | (go_at_call 17; (with_reducible refine (transitions_Fit.calls kj3 _ _ l1 t219 t237 _ ?side1 ?side2 A30.out).mono ?_); (case side1 => repeat (first | exact (Kd.C_below HR1.out (by repeat (first | (with_reducible first | exact HB.out | apply below_alloc | apply pw_below_drewN | apply below_drew1) | exact HB.out))) | (with_reducible refine Kd.C_alloc ?_ _) | (with_reducible refine Kd.C_drewN ?_ _) | (with_reducible refine Kd.C_drew ?_))); (case side2 => exact HC1.out); rintro e w' ⟨rfl, ⟨nd, rfl⟩⟩) | (go_at_call 18; (with_reducible refine (zoneinforef15_Fit.calls kj3 _ _ l1 t219 t238 _ ?side1 ?side2 A31.out).mono ?_); (case side1 => repeat (first | exact (Kd.C_below HR1.out (by repeat (first | (with_reducible first | exact HB.out | apply below_alloc | apply pw_below_drewN | apply below_drew1) | exact HB.out))) | (with_reducible refine Kd.C_alloc ?_ _) | (with_reducible refine Kd.C_drewN ?_ _) | (with_reducible refine Kd.C_drew ?_))); (case side2 => exact HC1.out); rintro e w' ⟨rfl, ⟨nd, rfl⟩⟩))
                    go_ret
                    exact ⟨by first | rfl | (simp [errW_none, errW_some] <;> rfl) | (simp only [← hji16]; first | rfl | (simp [errW_none, errW_some] <;> rfl)) | (simp [*, errW_none, errW_some] <;> rfl), by repeat (first | (with_reducible first | exact HB.out | apply below_alloc | apply pw_below_drewN | apply below_drew1) | exact HB.out)⟩
                  · rw [if_neg c29] at H
                    exact absurd H (by simp)
                · replace c26 := Bool.eq_false_iff.mpr c26
                  subst c26
                  have H1 : (none) = some r := by rw [if_neg (show ¬ (false = true) by decide)] at H; exact H
                  clear H
                  have H := H1
                  clear H1
                  exact absurd H (by simp)
              · replace c22 := Bool.eq_false_iff.mpr c22
                subst c22
                have H1 : (none) = some r := by rw [if_neg (show ¬ (false = true) by decide)] at H; exact H
                clear H
                have H := H1
                clear H1
                exact absurd H (by simp)
            · rw [if_neg c18] at H
              exact absurd H (by simp)
          · rw [if_neg c17] at H
            exact absurd H (by simp)

/-- THE ONE PURE STATEMENT of zoneinfolaw15_TransitionsMatchReference: yours. -/
def zoneinfolaw15_TransitionsMatchReference.Pure : Prop := ∀ (l0 : List Int) (l1 : List Int) (a2 : Bool), l0.length ≤ maxLen → l0.length * 1 ≤ 140737488351232 → (∀ x ∈ l0, (Lit.int .u8 x).wf = true) → l1.length ≤ maxLen → l1.length * 8 ≤ 140737488351232 → (∀ x ∈ l1, (Lit.int .i64 x).wf = true) → ∃ k, zoneinfolaw15_TransitionsMatchReference.f k l0 l1 a2 = some true
theorem zoneinfolaw15_TransitionsMatchReference.walk (P : zoneinfolaw15_TransitionsMatchReference.Pure) (a0 : Option Addr) (len0 cap0 : Nat) (z0 : List Int) (a1 : Option Addr) (len1 cap1 : Nat) (z1 : List Int) (a2 : Bool) (w : World) (w0 : (a0 = none ∧ len0 = 0 ∧ cap0 = 0 ∧ z0 = []) ∨ ∃ x, a0 = some x ∧ len0 ≤ cap0 ∧ cap0 ≤ maxLen ∧ z0.length = cap0 ∧ (∀ i, i < z0.length → w.cell? (x.add i) = some (.int .u8 (z0.getD i 0))) ∧ ∀ n ∈ z0, (Lit.int .u8 n).wf = true) (y0 : len0 * 1 ≤ 140737488351232) (w1 : (a1 = none ∧ len1 = 0 ∧ cap1 = 0 ∧ z1 = []) ∨ ∃ x, a1 = some x ∧ len1 ≤ cap1 ∧ cap1 ≤ maxLen ∧ z1.length = cap1 ∧ (∀ i, i < z1.length → w.cell? (x.add i) = some (.int .i64 (z1.getD i 0))) ∧ ∀ n ∈ z1, (Lit.int .i64 n).wf = true) (y1 : len1 * 8 ≤ 140737488351232) :
    Calls Try.prog 3 #[.slice a0 len0 cap0, .slice a1 len1 cap1, .bool a2] w fun e w' => e = .returned (.bool true) ∧ Below w.heap.size w w' := by
  obtain ⟨l0, rfl, hr0, hm0, hw0, hc0⟩ := ReadsInt.ofRowC w0
  obtain ⟨l1, rfl, hr1, hm1, hw1, hc1⟩ := ReadsInt.ofRowC w1
  obtain ⟨k, h⟩ := P l0 l1 a2 hm0 y0 hw0 hm1 y1 hw1
  refine (zoneinfolaw15_TransitionsMatchReference.calls k _ _ l0 _ _ l1 a2 true w (Kd.C_of_reads (d := (0 : Int)) (h1 := fun _ => rfl) hr0) hc0 (Kd.C_of_reads (d := (0 : Int)) (h1 := fun _ => rfl) hr1) hc1 h).mono ?_
  rintro e w' ⟨rfl, hd⟩
  exact ⟨rfl, hd⟩

end Go.Proofs.Ytcghocecejgeiaa.G
