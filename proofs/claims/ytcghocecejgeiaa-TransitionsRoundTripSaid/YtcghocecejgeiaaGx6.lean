/- Written by a program of this session for this seat: contracts of the functions that its laws reach, or the row of a law over its plain part. -/
import Derived.Test.YtcghocecejgeiaaGx0
import Derived.Test.YtcghocecejgeiaaGx1
import Derived.Test.YtcghocecejgeiaaGx2
import Derived.Test.YtcghocecejgeiaaGx3
namespace Go.Proofs.Ytcghocecejgeiaa.G
open Go.RowKit Go.Proofs.YtcghocecejgeiaaW.PrintWords Go.Proofs.YtcghocecejgeiaaW.PrintLast Go.Proofs.YtcghocecejgeiaaW.PrintMore
attribute [local go_sem] max2_int min2_int max_two min_two max_three min_three max_four min_four   -- for this text's walks alone
set_option linter.unusedVariables false
set_option linter.unusedSimpArgs false

/-! ### zoneinfolaw15_TransitionsRoundTrip: function 4 -/
mutual
def zoneinfolaw15_TransitionsRoundTrip.j0 : Nat → List Int → List Int → Bool → Bool → Option (Bool)
  | 0, _, _, _, _ => none
  | k + 1, x0, x1, x2, x22 => if x22 = true then ((zoneinfolaw15_awake.f k).bind fun t240 => (some t240)) else ((zoneinforef14_Size.f x2).bind fun t241 => ((transitions_Encode.f k x0 t241).bind fun t242 => (if (t242.length : Int) = (wrap64 (t241 * (x0.length : Int))) then ((transitions_Decode.f k t242 t241).bind fun t245 => ((zoneinforef15_Same.f k t245 x0).bind fun t248 => ((transitions_Fit.f k x0 t241).bind fun t249 => (if (t248 != t249) = true then (zoneinfolaw15_TransitionsRoundTrip.j1 k x1 t241 true) else ((transitions_Fit.f k x0 8).bind fun t250 => (zoneinfolaw15_TransitionsRoundTrip.j1 k x1 t241 (!t250))))))) else (zoneinfolaw15_TransitionsRoundTrip.j1 k x1 t241 true))))
def zoneinfolaw15_TransitionsRoundTrip.j1 : Nat → List Int → Int → Bool → Option (Bool)
  | 0, _, _, _ => none
  | k + 1, x1, x7, x51 => if x51 = true then (none) else (if x7 = 0 then (none) else (if 0 ≤ (wrap64 ((wrap64 ((x1.length : Int) / x7)) * x7)) then (if (wrap64 ((wrap64 ((x1.length : Int) / x7)) * x7)) ≤ (x1.length : Int) then ((transitions_Decode.f k (x1.take ((wrap64 ((wrap64 ((x1.length : Int) / x7)) * x7)) : Int).toNat) x7).bind fun t252 => (if (t252.length : Int) = (wrap64 (((x1.take ((wrap64 ((wrap64 ((x1.length : Int) / x7)) * x7)) : Int).toNat).length : Int) / x7)) then ((transitions_Encode.f k t252 x7).bind fun t255 => ((zoneinforef01_Same.f k t255 (x1.take ((wrap64 ((wrap64 ((x1.length : Int) / x7)) * x7)) : Int).toNat)).bind fun t258 => (if t258 = true then ((transitions_Fit.f k t252 x7).bind fun t259 => (some t259)) else (none)))) else (none))) else (none)) else (none)))
end
def zoneinfolaw15_TransitionsRoundTrip.f (k : Nat) (l0 : List Int) (l1 : List Int) (a2 : Bool) : Option (Bool) := (zoneinfolaw15_awake.f k).bind fun t239 => (if t239 = true then (if (l1.length : Int) > 1000 then (zoneinfolaw15_TransitionsRoundTrip.j0 k l0 l1 a2 true) else (zoneinfolaw15_TransitionsRoundTrip.j0 k l0 l1 a2 (decide ((l0.length : Int) > 200)))) else (zoneinfolaw15_TransitionsRoundTrip.j0 k l0 l1 a2 true))
theorem zoneinfolaw15_TransitionsRoundTrip.mono_l : ∀ k, (∀ y0 y1 y2 y3, LeO (zoneinfolaw15_TransitionsRoundTrip.j0 k y0 y1 y2 y3) (zoneinfolaw15_TransitionsRoundTrip.j0 (k + 1) y0 y1 y2 y3)) ∧ (∀ y0 y1 y2, LeO (zoneinfolaw15_TransitionsRoundTrip.j1 k y0 y1 y2) (zoneinfolaw15_TransitionsRoundTrip.j1 (k + 1) y0 y1 y2))
  | 0 => ⟨fun _ _ _ _ r h => by simp [zoneinfolaw15_TransitionsRoundTrip.j0] at h, fun _ _ _ r h => by simp [zoneinfolaw15_TransitionsRoundTrip.j1] at h⟩
  | k + 1 => by
    obtain ⟨ih0, ih1⟩ := zoneinfolaw15_TransitionsRoundTrip.mono_l k
    refine ⟨?_, ?_⟩
    · intro y0 y1 y2 y3
      unfold zoneinfolaw15_TransitionsRoundTrip.j0
      repeat' first
      | (with_reducible exact ih0 _ _ _ _)
      | (with_reducible exact ih1 _ _ _)
      | (with_reducible exact transitions_Decode.mono _ _ _)
      | (with_reducible exact transitions_Encode.mono _ _ _)
      | (with_reducible exact transitions_Fit.mono _ _ _)
      | (with_reducible exact zoneinfolaw15_awake.mono _)
      | (with_reducible exact zoneinforef01_Same.mono _ _ _)
      | (with_reducible exact zoneinforef15_Same.mono _ _ _)
      | (with_reducible exact LeO.refl _)
      | (with_reducible exact LeO.none _)
      | (with_reducible refine LeO.ite ?_ ?_)
      | (with_reducible refine LeO.bind ?_ (fun _ => ?_))
      | exact ih0 _ _ _ _
      | exact ih1 _ _ _
      | exact transitions_Decode.mono _ _ _
      | exact transitions_Encode.mono _ _ _
      | exact transitions_Fit.mono _ _ _
      | exact zoneinfolaw15_awake.mono _
      | exact zoneinforef01_Same.mono _ _ _
      | exact zoneinforef15_Same.mono _ _ _
      | exact LeO.none _
      | refine LeO.ite ?_ ?_
      | refine LeO.bind ?_ (fun _ => ?_)
    · intro y0 y1 y2
      unfold zoneinfolaw15_TransitionsRoundTrip.j1
      repeat' first
      | (with_reducible exact ih0 _ _ _ _)
      | (with_reducible exact ih1 _ _ _)
      | (with_reducible exact transitions_Decode.mono _ _ _)
      | (with_reducible exact transitions_Encode.mono _ _ _)
      | (with_reducible exact transitions_Fit.mono _ _ _)
      | (with_reducible exact zoneinfolaw15_awake.mono _)
      | (with_reducible exact zoneinforef01_Same.mono _ _ _)
      | (with_reducible exact zoneinforef15_Same.mono _ _ _)
      | (with_reducible exact LeO.refl _)
      | (with_reducible exact LeO.none _)
      | (with_reducible refine LeO.ite ?_ ?_)
      | (with_reducible refine LeO.bind ?_ (fun _ => ?_))
      | exact ih0 _ _ _ _
      | exact ih1 _ _ _
      | exact transitions_Decode.mono _ _ _
      | exact transitions_Encode.mono _ _ _
      | exact transitions_Fit.mono _ _ _
      | exact zoneinfolaw15_awake.mono _
      | exact zoneinforef01_Same.mono _ _ _
      | exact zoneinforef15_Same.mono _ _ _
      | exact LeO.none _
      | refine LeO.ite ?_ ?_
      | refine LeO.bind ?_ (fun _ => ?_)
theorem zoneinfolaw15_TransitionsRoundTrip.mono : ∀ a0 a1 a2 k, LeO (zoneinfolaw15_TransitionsRoundTrip.f k a0 a1 a2) (zoneinfolaw15_TransitionsRoundTrip.f (k + 1) a0 a1 a2) := by
  intro a0 a1 a2 k
  obtain ⟨ih0, ih1⟩ := zoneinfolaw15_TransitionsRoundTrip.mono_l k
  unfold zoneinfolaw15_TransitionsRoundTrip.f
  repeat' first
      | (with_reducible exact ih0 _ _ _ _)
      | (with_reducible exact ih1 _ _ _)
      | (with_reducible exact transitions_Decode.mono _ _ _)
      | (with_reducible exact transitions_Encode.mono _ _ _)
      | (with_reducible exact transitions_Fit.mono _ _ _)
      | (with_reducible exact zoneinfolaw15_awake.mono _)
      | (with_reducible exact zoneinforef01_Same.mono _ _ _)
      | (with_reducible exact zoneinforef15_Same.mono _ _ _)
      | (with_reducible exact LeO.refl _)
      | (with_reducible exact LeO.none _)
      | (with_reducible refine LeO.ite ?_ ?_)
      | (with_reducible refine LeO.bind ?_ (fun _ => ?_))
      | exact ih0 _ _ _ _
      | exact ih1 _ _ _
      | exact transitions_Decode.mono _ _ _
      | exact transitions_Encode.mono _ _ _
      | exact transitions_Fit.mono _ _ _
      | exact zoneinfolaw15_awake.mono _
      | exact zoneinforef01_Same.mono _ _ _
      | exact zoneinforef15_Same.mono _ _ _
      | exact LeO.none _
      | refine LeO.ite ?_ ?_
      | refine LeO.bind ?_ (fun _ => ?_)
set_option maxHeartbeats 8000000 in
set_option maxRecDepth 100000 in
theorem zoneinfolaw15_TransitionsRoundTrip.calls (k : Nat) (A0 : Option Addr) (c0 : Nat) (l0 : List Int) (A1 : Option Addr) (c1 : Nat) (l1 : List Int) (a2 : Bool) (r : Bool) (w : World) (hr0 : Kd.C (Kd.int .i64) w A0 l0.length l0) (hc0 : l0.length ≤ c0) (hr1 : Kd.C (Kd.int .u8) w A1 l1.length l1) (hc1 : l1.length ≤ c1) (h : zoneinfolaw15_TransitionsRoundTrip.f k l0 l1 a2 = some r) :
    Calls Try.prog 4 #[.slice A0 l0.length c0, .slice A1 l1.length c1, .bool a2] w fun e w' => e = .returned (.bool r) ∧ Below w.heap.size w w' := by
  have HR0 := Aside0.mk hr0
  have HC0 := Aside0.mk hc0
  clear hr0 hc0
  have HR1 := Aside0.mk hr1
  have HC1 := Aside0.mk hc1
  clear hr1 hc1
  have HB := Aside0.mk (Below.refl w.heap.size w)
  have H : ((zoneinfolaw15_awake.f k).bind fun t239 => (if t239 = true then (if (l1.length : Int) > 1000 then (zoneinfolaw15_TransitionsRoundTrip.j0 k l0 l1 a2 true) else (zoneinfolaw15_TransitionsRoundTrip.j0 k l0 l1 a2 (decide ((l0.length : Int) > 200)))) else (zoneinfolaw15_TransitionsRoundTrip.j0 k l0 l1 a2 true))) = some r := h
  clear h
  have HC4 := Aside0.mk H
  clear H
  go_enter Try.func4, Try.ntmps4
  go_upto_region 1 with (fail)
  go_cut [22] (fun v22 wc => ∃ (kq : Nat) (x22_3 : Bool), v22 = .bool x22_3 ∧ Aside0 (zoneinfolaw15_TransitionsRoundTrip.j0 kq l0 l1 a2 x22_3 = some r) ∧ Aside0 (kq ≤ k) ∧ Aside0 (Below w.heap.size w wc))
  case first =>
    have H := HC4.out
    clear HC4
    replace H := Option.bind_eq_some_iff.mp H
    obtain ⟨t239, A50, H⟩ := H
    replace H : (if t239 = true then (if (l1.length : Int) > 1000 then (zoneinfolaw15_TransitionsRoundTrip.j0 k l0 l1 a2 true) else (zoneinfolaw15_TransitionsRoundTrip.j0 k l0 l1 a2 (decide ((l0.length : Int) > 200)))) else (zoneinfolaw15_TransitionsRoundTrip.j0 k l0 l1 a2 true)) = some r := H
    have A5 := Aside0.mk A50
    clear A50
    by_cases c6 : t239 = true
    · subst c6
      have H1 : (if (l1.length : Int) > 1000 then (zoneinfolaw15_TransitionsRoundTrip.j0 k l0 l1 a2 true) else (zoneinfolaw15_TransitionsRoundTrip.j0 k l0 l1 a2 (decide ((l0.length : Int) > 200)))) = some r := by rw [if_pos rfl] at H; exact H
      clear H
      have H := H1
      clear H1
      by_cases c7 : (l1.length : Int) > 1000
      · rw [if_pos c7] at H
        have c7b0 : decide (1000 < (l1.length : Int)) = true := decide_eq_true c7
        have c7b1 : decide (1000 < l1.length) = true := decide_eq_true (by omega)
        clear c7
        (first | rw [c7b0] | (simp only [i64_w, i32_w]; rw [c7b0]) | skip)
        have H' := Aside0.mk H
        clear H
        go_wp2_with (first | (go_at_call 7; (with_reducible refine (zoneinfolaw15_awake.calls k  true _ A5.out).mono ?_); rintro e w8 ⟨rfl, hb⟩; have n0_ := Aside0.mk (below_step (by repeat (first | (with_reducible first | exact HB.out | apply below_alloc | apply pw_below_drewN | apply below_drew1) | exact HB.out)) hb); clear HB; have HB := n0_; clear n0_; (try clear hb); (try clear hb2); (try clear hk); (try clear hi)))
        go_meet
        case rel => exact ⟨_, (true), (by first | rfl | (simp; done) | (simp [*]; done)), H', ⟨by first | omega | exact Nat.le_refl _⟩, ⟨by repeat (first | (with_reducible first | exact HB.out | apply below_alloc | apply pw_below_drewN | apply below_drew1) | exact HB.out)⟩⟩
      · rw [if_neg c7] at H
        have c7b0 : decide (1000 < (l1.length : Int)) = false := decide_eq_false c7
        have c7b1 : decide (1000 < l1.length) = false := decide_eq_false (by omega)
        clear c7
        (first | rw [c7b0] | (simp only [i64_w, i32_w]; rw [c7b0]) | skip)
        have H' := Aside0.mk H
        clear H
        go_wp2_with (first | (go_at_call 7; (with_reducible refine (zoneinfolaw15_awake.calls k  true _ A5.out).mono ?_); rintro e w9 ⟨rfl, hb⟩; have n0_ := Aside0.mk (below_step (by repeat (first | (with_reducible first | exact HB.out | apply below_alloc | apply pw_below_drewN | apply below_drew1) | exact HB.out)) hb); clear HB; have HB := n0_; clear n0_; (try clear hb); (try clear hb2); (try clear hk); (try clear hi)))
        go_meet
        case rel => exact ⟨_, (decide ((l0.length : Int) > 200)), (by first | rfl | (simp; done) | (simp [*]; done)), H', ⟨by first | omega | exact Nat.le_refl _⟩, ⟨by repeat (first | (with_reducible first | exact HB.out | apply below_alloc | apply pw_below_drewN | apply below_drew1) | exact HB.out)⟩⟩
    · replace c6 := Bool.eq_false_iff.mpr c6
      subst c6
      have H1 : (zoneinfolaw15_TransitionsRoundTrip.j0 k l0 l1 a2 true) = some r := by rw [if_neg (show ¬ (false = true) by decide)] at H; exact H
      clear H
      have H := H1
      clear H1
      have H' := Aside0.mk H
      clear H
      go_wp2_with (first | (go_at_call 7; (with_reducible refine (zoneinfolaw15_awake.calls k  false _ A5.out).mono ?_); rintro e w10 ⟨rfl, hb⟩; have n0_ := Aside0.mk (below_step (by repeat (first | (with_reducible first | exact HB.out | apply below_alloc | apply pw_below_drewN | apply below_drew1) | exact HB.out)) hb); clear HB; have HB := n0_; clear n0_; (try clear hb); (try clear hb2); (try clear hk); (try clear hi)))
      go_meet
      case rel => exact ⟨_, (true), (by first | rfl | (simp; done) | (simp [*]; done)), H', ⟨by first | omega | exact Nat.le_refl _⟩, ⟨by repeat (first | (with_reducible first | exact HB.out | apply below_alloc | apply pw_below_drewN | apply below_drew1) | exact HB.out)⟩⟩
  case rest =>
    clear HC4
    try clear c1
    try clear p2
    try clear c4
    try clear c6
    try clear c7
    try clear c7b0
    try clear c7b1
    obtain ⟨kq, x22_3, rfl, HA, HJ3, HB⟩ := hcut
    cases kq with
    | zero => exact absurd HA.out (by simp [zoneinfolaw15_TransitionsRoundTrip.j0])
    | succ kj3 =>
      have H := HA.out
      clear HA
      simp only [zoneinfolaw15_TransitionsRoundTrip.j0] at H
      by_cases c11 : x22_3 = true
      · subst c11
        have H1 : ((zoneinfolaw15_awake.f kj3).bind fun t240 => (some t240)) = some r := by rw [if_pos rfl] at H; exact H
        clear H
        have H := H1
        clear H1
        replace H := Option.bind_eq_some_iff.mp H
        obtain ⟨t240, A120, H⟩ := H
        replace H : (some t240) = some r := H
        have A12 := Aside0.mk A120
        clear A120
        obtain rfl := Option.some.inj H
        go_wp2_with (first | ((with_reducible refine gate_callee (f := 7) rfl ?_); refine goesL_ (some 23) rfl rfl Try.func7 (by kernel_rfl) rfl #[] rfl (by (try simp only [List.map_toArray, List.map_cons, List.map_nil]); first | done | rfl | (simp only [List.length_drop, List.length_take]; rfl)) ?_; (with_reducible refine (zoneinfolaw15_awake.calls kj3  t240 _ A12.out).mono ?_); rintro e w13 ⟨rfl, hb⟩; refine ⟨_, rfl, ?_⟩; have n0_ := Aside0.mk (below_step (by repeat (first | (with_reducible first | exact HB.out | apply below_alloc | apply pw_below_drewN | apply below_drew1) | exact HB.out)) hb); clear HB; have HB := n0_; clear n0_; (try clear hb); (try clear hb2); (try clear hk); (try clear hi)))
        go_ret
        exact ⟨by first | rfl | (simp [errW_none, errW_some] <;> rfl) | (simp [*, errW_none, errW_some] <;> rfl), by repeat (first | (with_reducible first | exact HB.out | apply below_alloc | apply pw_below_drewN | apply below_drew1) | exact HB.out)⟩
      · replace c11 := Bool.eq_false_iff.mpr c11
        subst c11
        have H1 : ((zoneinforef14_Size.f a2).bind fun t241 => ((transitions_Encode.f kj3 l0 t241).bind fun t242 => (if (t242.length : Int) = (wrap64 (t241 * (l0.length : Int))) then ((transitions_Decode.f kj3 t242 t241).bind fun t245 => ((zoneinforef15_Same.f kj3 t245 l0).bind fun t248 => ((transitions_Fit.f kj3 l0 t241).bind fun t249 => (if (t248 != t249) = true then (zoneinfolaw15_TransitionsRoundTrip.j1 kj3 l1 t241 true) else ((transitions_Fit.f kj3 l0 8).bind fun t250 => (zoneinfolaw15_TransitionsRoundTrip.j1 kj3 l1 t241 (!t250))))))) else (zoneinfolaw15_TransitionsRoundTrip.j1 kj3 l1 t241 true)))) = some r := by rw [if_neg (show ¬ (false = true) by decide)] at H; exact H
        clear H
        have H := H1
        clear H1
        replace H := Option.bind_eq_some_iff.mp H
        obtain ⟨t241, A140, H⟩ := H
        replace H : ((transitions_Encode.f kj3 l0 t241).bind fun t242 => (if (t242.length : Int) = (wrap64 (t241 * (l0.length : Int))) then ((transitions_Decode.f kj3 t242 t241).bind fun t245 => ((zoneinforef15_Same.f kj3 t245 l0).bind fun t248 => ((transitions_Fit.f kj3 l0 t241).bind fun t249 => (if (t248 != t249) = true then (zoneinfolaw15_TransitionsRoundTrip.j1 kj3 l1 t241 true) else ((transitions_Fit.f kj3 l0 8).bind fun t250 => (zoneinfolaw15_TransitionsRoundTrip.j1 kj3 l1 t241 (!t250))))))) else (zoneinfolaw15_TransitionsRoundTrip.j1 kj3 l1 t241 true))) = some r := H
        have A14 := Aside0.mk A140
        clear A140
        replace H := Option.bind_eq_some_iff.mp H
        obtain ⟨t242, A150, H⟩ := H
        replace H : (if (t242.length : Int) = (wrap64 (t241 * (l0.length : Int))) then ((transitions_Decode.f kj3 t242 t241).bind fun t245 => ((zoneinforef15_Same.f kj3 t245 l0).bind fun t248 => ((transitions_Fit.f kj3 l0 t241).bind fun t249 => (if (t248 != t249) = true then (zoneinfolaw15_TransitionsRoundTrip.j1 kj3 l1 t241 true) else ((transitions_Fit.f kj3 l0 8).bind fun t250 => (zoneinfolaw15_TransitionsRoundTrip.j1 kj3 l1 t241 (!t250))))))) else (zoneinfolaw15_TransitionsRoundTrip.j1 kj3 l1 t241 true)) = some r := H
        have A15 := Aside0.mk A150
        clear A150
        have HC16 := Aside0.mk H
        clear H
        go_upto_region 5 with (first | ((with_reducible refine gate_callee (f := 8) rfl ?_); refine goesL_ (some 25) rfl rfl Try.func8 (by kernel_rfl) rfl #[.bool a2] rfl (by (try simp only [List.map_toArray, List.map_cons, List.map_nil]); first | done | rfl | (simp only [List.length_drop, List.length_take]; rfl)) ?_; (with_reducible refine (zoneinforef14_Size.calls a2 t241 _ A14.out).mono ?_); rintro e w' ⟨rfl, ⟨nd, rfl⟩⟩; refine ⟨_, rfl, ?_⟩) | ((with_reducible refine gate_callee (f := 13) rfl ?_); refine goesL_ (some 28) rfl rfl Try.func13 (by kernel_rfl) rfl #[.slice A0 l0.length c0, .int .i64 t241] rfl (by (try simp only [List.map_toArray, List.map_cons, List.map_nil]); first | done | rfl | (simp only [List.length_drop, List.length_take]; rfl)) ?_; (with_reducible refine (transitions_Encode.calls kj3 _ _ l0 t241 t242 _ ?side1 ?side2 A15.out).mono ?_); (case side1 => repeat (first | exact (Kd.C_below HR0.out (by repeat (first | (with_reducible first | exact HB.out | apply below_alloc | apply pw_below_drewN | apply below_drew1) | exact HB.out))) | (with_reducible refine Kd.C_alloc ?_ _) | (with_reducible refine Kd.C_drewN ?_ _) | (with_reducible refine Kd.C_drew ?_))); (case side2 => exact HC0.out); rintro e w17 ⟨v243, rfl, ho0, hb⟩; refine ⟨_, rfl, ?_⟩; have n0_ := Aside0.mk (Kd.R_lower ho0 (below_size (by repeat (first | (with_reducible first | exact HB.out | apply below_alloc | apply pw_below_drewN | apply below_drew1) | exact HB.out)))); have n1_ := Aside0.mk (below_step (by repeat (first | (with_reducible first | exact HB.out | apply below_alloc | apply pw_below_drewN | apply below_drew1) | exact HB.out)) hb); clear HB; have HO244 := n0_; have HB := n1_; clear n0_ n1_; (try clear hb); (try clear hb2); (try clear hk); (try clear hi); (try clear ho0)))
        (try simp only [Act.put, List.setIfInBounds_toArray, List.set_cons_zero, List.set_cons_succ])
        go_cut [51] (fun v51 wc => ∃ (kq : Nat) (x51_15 : Bool), v51 = .bool x51_15 ∧ Aside0 (zoneinfolaw15_TransitionsRoundTrip.j1 kq l1 t241 x51_15 = some r) ∧ Aside0 (kq ≤ kj3) ∧ Aside0 (Below w.heap.size w wc))
        case first =>
          have H := HC16.out
          clear HC16
          by_cases c18 : (t242.length : Int) = (wrap64 (t241 * (l0.length : Int)))
          · rw [if_pos c18] at H
            have c18b0 : ((t242.length : Int) == (wrap64 (t241 * (l0.length : Int)))) = true := beq_iff_eq.mpr c18
            have c18b1 : ((t242.length : Int) != (wrap64 (t241 * (l0.length : Int)))) = false := bne_eq_false_iff_eq.mpr c18
            clear c18
            (first | rw [c18b0] | (simp only [i64_w, i32_w]; rw [c18b0]) | skip)
            replace H := Option.bind_eq_some_iff.mp H
            obtain ⟨t245, A190, H⟩ := H
            replace H : ((zoneinforef15_Same.f kj3 t245 l0).bind fun t248 => ((transitions_Fit.f kj3 l0 t241).bind fun t249 => (if (t248 != t249) = true then (zoneinfolaw15_TransitionsRoundTrip.j1 kj3 l1 t241 true) else ((transitions_Fit.f kj3 l0 8).bind fun t250 => (zoneinfolaw15_TransitionsRoundTrip.j1 kj3 l1 t241 (!t250)))))) = some r := H
            have A19 := Aside0.mk A190
            clear A190
            replace H := Option.bind_eq_some_iff.mp H
            obtain ⟨t248, A200, H⟩ := H
            replace H : ((transitions_Fit.f kj3 l0 t241).bind fun t249 => (if (t248 != t249) = true then (zoneinfolaw15_TransitionsRoundTrip.j1 kj3 l1 t241 true) else ((transitions_Fit.f kj3 l0 8).bind fun t250 => (zoneinfolaw15_TransitionsRoundTrip.j1 kj3 l1 t241 (!t250))))) = some r := H
            have A20 := Aside0.mk A200
            clear A200
            replace H := Option.bind_eq_some_iff.mp H
            obtain ⟨t249, A210, H⟩ := H
            replace H : (if (t248 != t249) = true then (zoneinfolaw15_TransitionsRoundTrip.j1 kj3 l1 t241 true) else ((transitions_Fit.f kj3 l0 8).bind fun t250 => (zoneinfolaw15_TransitionsRoundTrip.j1 kj3 l1 t241 (!t250)))) = some r := H
            have A21 := Aside0.mk A210
            clear A210
            by_cases c22 : (t248 != t249) = true
            · rw [if_pos c22] at H
              have c22b0 : (t248 != t249) = true := c22
              (try (have c22b1 : decide (t248 = t249) = false := by simpa using c22))
              (try (have c22b2 : (t248 == t249) = false := by simpa using c22))
              (try (have c22b3 : ¬ (t248 = t249) := by simpa using c22))
              clear c22
              have H' := Aside0.mk H
              clear H
              obtain ⟨Ao23, co23, eo23⟩ := Kd.R_slice HO244.out
              subst eo23
              go_wp2_with (first | (go_at_call 10; (with_reducible refine (transitions_Decode.calls kj3 _ _ t242 t241 t245 _ ?side1 ?side2 A19.out).mono ?_); (case side1 => repeat (first | exact (Kd.R_reads' HO244.out).2.2 | (with_reducible refine Kd.C_alloc ?_ _) | (with_reducible refine Kd.C_drewN ?_ _) | (with_reducible refine Kd.C_drew ?_))); (case side2 => exact (Kd.R_reads' HO244.out).2.1); rintro e w24 ⟨v246, rfl, ho0, hb⟩; have n0_ := Aside0.mk (Kd.R_below (by (with_reducible repeat (first | apply Kd.R_alloc | apply Kd.R_drewN | apply Kd.R_drew)); exact HO244.out) hb); have n1_ := Aside0.mk (Kd.R_lower ho0 (below_size (by repeat (first | (with_reducible first | exact HB.out | apply below_alloc | apply pw_below_drewN | apply below_drew1) | exact HB.out)))); have n2_ := Aside0.mk (below_step (by repeat (first | (with_reducible first | exact HB.out | apply below_alloc | apply pw_below_drewN | apply below_drew1) | exact HB.out)) hb); clear HO244; clear HB; have HO244 := n0_; have HO247 := n1_; have HB := n2_; clear n0_ n1_ n2_; (try clear hb); (try clear hb2); (try clear hk); (try clear hi); (try clear ho0); obtain ⟨Ao25, co25, eo25⟩ := Kd.R_slice HO247.out; subst eo25) | (go_at_call 9; (with_reducible refine (zoneinforef15_Same.calls kj3 _ _ t245 _ _ l0 t248 _ ?side1 ?side2 ?side3 ?side4 A20.out).mono ?_); (case side1 => repeat (first | exact (Kd.R_reads' HO247.out).2.2 | (with_reducible refine Kd.C_alloc ?_ _) | (with_reducible refine Kd.C_drewN ?_ _) | (with_reducible refine Kd.C_drew ?_))); (case side2 => exact (Kd.R_reads' HO247.out).2.1); (case side3 => repeat (first | exact (Kd.C_below HR0.out HB.out) | (with_reducible refine Kd.C_alloc ?_ _) | (with_reducible refine Kd.C_drewN ?_ _) | (with_reducible refine Kd.C_drew ?_))); (case side4 => exact HC0.out); rintro e w' ⟨rfl, ⟨nd, rfl⟩⟩) | (go_at_call 17; (with_reducible refine (transitions_Fit.calls kj3 _ _ l0 t241 t249 _ ?side1 ?side2 A21.out).mono ?_); (case side1 => repeat (first | exact (Kd.C_below HR0.out (by repeat (first | (with_reducible first | exact HB.out | apply below_alloc | apply pw_below_drewN | apply below_drew1) | exact HB.out))) | (with_reducible refine Kd.C_alloc ?_ _) | (with_reducible refine Kd.C_drewN ?_ _) | (with_reducible refine Kd.C_drew ?_))); (case side2 => exact HC0.out); rintro e w' ⟨rfl, ⟨nd, rfl⟩⟩))
              go_meet
              case rel => exact ⟨_, (true), (by first | rfl | (simp; done) | (simp [*]; done)), H', ⟨by have := HJ3.out; first | omega | exact Nat.le_refl _⟩, ⟨by repeat (first | (with_reducible first | exact HB.out | apply below_alloc | apply pw_below_drewN | apply below_drew1) | exact HB.out)⟩⟩
            · rw [if_neg c22] at H
              have c22b0 : (t248 != t249) = false := by simpa using c22
              (try (have c22b1 : decide (t248 = t249) = true := by simpa using c22))
              (try (have c22b2 : (t248 == t249) = true := by simpa using c22))
              clear c22
              replace H := Option.bind_eq_some_iff.mp H
              obtain ⟨t250, A260, H⟩ := H
              replace H : (zoneinfolaw15_TransitionsRoundTrip.j1 kj3 l1 t241 (!t250)) = some r := H
              have A26 := Aside0.mk A260
              clear A260
              have H' := Aside0.mk H
              clear H
              obtain ⟨Ao27, co27, eo27⟩ := Kd.R_slice HO244.out
              subst eo27
              go_wp2_with (first | (go_at_call 10; (with_reducible refine (transitions_Decode.calls kj3 _ _ t242 t241 t245 _ ?side1 ?side2 A19.out).mono ?_); (case side1 => repeat (first | exact (Kd.R_reads' HO244.out).2.2 | (with_reducible refine Kd.C_alloc ?_ _) | (with_reducible refine Kd.C_drewN ?_ _) | (with_reducible refine Kd.C_drew ?_))); (case side2 => exact (Kd.R_reads' HO244.out).2.1); rintro e w28 ⟨v246, rfl, ho0, hb⟩; have n0_ := Aside0.mk (Kd.R_below (by (with_reducible repeat (first | apply Kd.R_alloc | apply Kd.R_drewN | apply Kd.R_drew)); exact HO244.out) hb); have n1_ := Aside0.mk (Kd.R_lower ho0 (below_size (by repeat (first | (with_reducible first | exact HB.out | apply below_alloc | apply pw_below_drewN | apply below_drew1) | exact HB.out)))); have n2_ := Aside0.mk (below_step (by repeat (first | (with_reducible first | exact HB.out | apply below_alloc | apply pw_below_drewN | apply below_drew1) | exact HB.out)) hb); clear HO244; clear HB; have HO244 := n0_; have HO247 := n1_; have HB := n2_; clear n0_ n1_ n2_; (try clear hb); (try clear hb2); (try clear hk); (try clear hi); (try clear ho0); obtain ⟨Ao29, co29, eo29⟩ := Kd.R_slice HO247.out; subst eo29) | (go_at_call 9; (with_reducible refine (zoneinforef15_Same.calls kj3 _ _ t245 _ _ l0 t248 _ ?side1 ?side2 ?side3 ?side4 A20.out).mono ?_); (case side1 => repeat (first | exact (Kd.R_reads' HO247.out).2.2 | (with_reducible refine Kd.C_alloc ?_ _) | (with_reducible refine Kd.C_drewN ?_ _) | (with_reducible refine Kd.C_drew ?_))); (case side2 => exact (Kd.R_reads' HO247.out).2.1); (case side3 => repeat (first | exact (Kd.C_below HR0.out HB.out) | (with_reducible refine Kd.C_alloc ?_ _) | (with_reducible refine Kd.C_drewN ?_ _) | (with_reducible refine Kd.C_drew ?_))); (case side4 => exact HC0.out); rintro e w' ⟨rfl, ⟨nd, rfl⟩⟩) | (go_at_call 17; (with_reducible refine (transitions_Fit.calls kj3 _ _ l0 t241 t249 _ ?side1 ?side2 A21.out).mono ?_); (case side1 => repeat (first | exact (Kd.C_below HR0.out (by repeat (first | (with_reducible first | exact HB.out | apply below_alloc | apply pw_below_drewN | apply below_drew1) | exact HB.out))) | (with_reducible refine Kd.C_alloc ?_ _) | (with_reducible refine Kd.C_drewN ?_ _) | (with_reducible refine Kd.C_drew ?_))); (case side2 => exact HC0.out); rintro e w' ⟨rfl, ⟨nd, rfl⟩⟩) | (go_at_call 17; (with_reducible refine (transitions_Fit.calls kj3 _ _ l0 8 t250 _ ?side1 ?side2 A26.out).mono ?_); (case side1 => repeat (first | exact (Kd.C_below HR0.out (by repeat (first | (with_reducible first | exact HB.out | apply below_alloc | apply pw_below_drewN | apply below_drew1) | exact HB.out))) | (with_reducible refine Kd.C_alloc ?_ _) | (with_reducible refine Kd.C_drewN ?_ _) | (with_reducible refine Kd.C_drew ?_))); (case side2 => exact HC0.out); rintro e w' ⟨rfl, ⟨nd, rfl⟩⟩))
              go_meet
              case rel => exact ⟨_, (!t250), (by first | rfl | (simp; done) | (simp [*]; done)), H', ⟨by have := HJ3.out; first | omega | exact Nat.le_refl _⟩, ⟨by repeat (first | (with_reducible first | exact HB.out | apply below_alloc | apply pw_below_drewN | apply below_drew1) | exact HB.out)⟩⟩
          · rw [if_neg c18] at H
            have c18b0 : ((t242.length : Int) == (wrap64 (t241 * (l0.length : Int)))) = false := beq_eq_false_iff_ne.mpr c18
            have c18b1 : ((t242.length : Int) != (wrap64 (t241 * (l0.length : Int)))) = true := bne_iff_ne.mpr c18
            (first | rw [c18b0] | (simp only [i64_w, i32_w]; rw [c18b0]) | skip)
            have H' := Aside0.mk H
            clear H
            obtain ⟨Ao30, co30, eo30⟩ := Kd.R_slice HO244.out
            subst eo30
            go_wp2
            go_meet
            case rel => exact ⟨_, (true), (by first | rfl | (simp; done) | (simp [*]; done)), H', ⟨by have := HJ3.out; first | omega | exact Nat.le_refl _⟩, ⟨by repeat (first | (with_reducible first | exact HB.out | apply below_alloc | apply pw_below_drewN | apply below_drew1) | exact HB.out)⟩⟩
        case rest =>
          clear HC16
          try clear c1
          try clear c2
          try clear p2
          try clear c4
          try clear c6
          try clear p6
          try clear c7
          try clear c7b0
          try clear c7b1
          try clear c8
          try clear c11
          try clear c13
          try clear c18
          try clear c18b0
          try clear c18b1
          try clear c22
          try clear c22b0
          try clear c22b1
          try clear c22b2
          try clear p2
          obtain ⟨kq, x51_15, rfl, HA, HJ15, HB⟩ := hcut
          cases kq with
          | zero => exact absurd HA.out (by simp [zoneinfolaw15_TransitionsRoundTrip.j1])
          | succ kj15 =>
            have H := HA.out
            clear HA
            simp only [zoneinfolaw15_TransitionsRoundTrip.j1] at H
            by_cases c31 : x51_15 = true
            · subst c31
              have H1 : (none) = some r := by rw [if_pos rfl] at H; exact H
              clear H
              have H := H1
              clear H1
              exact absurd H (by simp)
            · replace c31 := Bool.eq_false_iff.mpr c31
              subst c31
              have H1 : (if t241 = 0 then (none) else (if 0 ≤ (wrap64 ((wrap64 ((l1.length : Int) / t241)) * t241)) then (if (wrap64 ((wrap64 ((l1.length : Int) / t241)) * t241)) ≤ (l1.length : Int) then ((transitions_Decode.f kj15 (l1.take ((wrap64 ((wrap64 ((l1.length : Int) / t241)) * t241)) : Int).toNat) t241).bind fun t252 => (if (t252.length : Int) = (wrap64 (((l1.take ((wrap64 ((wrap64 ((l1.length : Int) / t241)) * t241)) : Int).toNat).length : Int) / t241)) then ((transitions_Encode.f kj15 t252 t241).bind fun t255 => ((zoneinforef01_Same.f kj15 t255 (l1.take ((wrap64 ((wrap64 ((l1.length : Int) / t241)) * t241)) : Int).toNat)).bind fun t258 => (if t258 = true then ((transitions_Fit.f kj15 t252 t241).bind fun t259 => (some t259)) else (none)))) else (none))) else (none)) else (none))) = some r := by rw [if_neg (show ¬ (false = true) by decide)] at H; exact H
              clear H
              have H := H1
              clear H1
              by_cases c32 : t241 = 0
              · rw [if_pos c32] at H
                exact absurd H (by simp)
              · rw [if_neg c32] at H
                have c32b0 : (t241 == 0) = false := beq_eq_false_iff_ne.mpr c32
                have c32b1 : (t241 != 0) = true := bne_iff_ne.mpr c32
                obtain ⟨ji33, hji33⟩ : ∃ j_ : Int, (wrap64 ((wrap64 ((l1.length : Int) / t241)) * t241)) = j_ := ⟨_, rfl⟩
                replace H : (if 0 ≤ (ji33) then (if (ji33) ≤ (l1.length : Int) then ((transitions_Decode.f kj15 (l1.take ((ji33) : Int).toNat) t241).bind fun t252 => (if (t252.length : Int) = (wrap64 (((l1.take ((ji33) : Int).toNat).length : Int) / t241)) then ((transitions_Encode.f kj15 t252 t241).bind fun t255 => ((zoneinforef01_Same.f kj15 t255 (l1.take ((ji33) : Int).toNat)).bind fun t258 => (if t258 = true then ((transitions_Fit.f kj15 t252 t241).bind fun t259 => (some t259)) else (none)))) else (none))) else (none)) else (none)) = some r := by first | (rw [hji33] at H; exact H) | (simp only [hji33] at H ⊢; exact H)
                have hji33w : (IntKind.i64.wrap ((wrap64 ((l1.length : Int) / t241)) * t241)) = ji33 := (i64_w _).trans hji33
                by_cases c34 : 0 ≤ (ji33)
                · rw [if_pos c34] at H
                  have c34b0 := eq_true c34
                  have c34b1 : decide (0 ≤ (ji33)) = true := decide_eq_true c34
                  clear c34
                  by_cases c35 : (ji33) ≤ (l1.length : Int)
                  · rw [if_pos c35] at H
                    have c35b0 := eq_true c35
                    have c35b1 : decide ((ji33) ≤ (l1.length : Int)) = true := decide_eq_true c35
                    clear c35
                    replace H := Option.bind_eq_some_iff.mp H
                    obtain ⟨t252, A360, H⟩ := H
                    replace H : (if (t252.length : Int) = (wrap64 (((l1.take ((ji33) : Int).toNat).length : Int) / t241)) then ((transitions_Encode.f kj15 t252 t241).bind fun t255 => ((zoneinforef01_Same.f kj15 t255 (l1.take ((ji33) : Int).toNat)).bind fun t258 => (if t258 = true then ((transitions_Fit.f kj15 t252 t241).bind fun t259 => (some t259)) else (none)))) else (none)) = some r := H
                    have A36 := Aside0.mk A360
                    clear A360
                    by_cases c37 : (t252.length : Int) = (wrap64 (((l1.take ((ji33) : Int).toNat).length : Int) / t241))
                    · rw [if_pos c37] at H
                      have c37b0 : ((t252.length : Int) == (wrap64 (((l1.take ((ji33) : Int).toNat).length : Int) / t241))) = true := beq_iff_eq.mpr c37
                      have c37LEN_ : (((t252.length : Int)) == (wrap64 (Int.tdiv (max ji33 0) t241))) = true := by (have h_ := of_decide_eq_true (p := (ji33 ≤ (l1.length : Int))) (by assumption)); have h0_ := of_decide_eq_true (p := (0 ≤ ji33)) (by assumption); rw [show max ji33 0 = ((l1.take ((ji33) : Int).toNat).length : Int) from (by rw [List.length_take]; omega), Int.tdiv_eq_ediv_of_nonneg (by omega)]; exact c37b0
                      have c37b1 : ((t252.length : Int) != (wrap64 (((l1.take ((ji33) : Int).toNat).length : Int) / t241))) = false := bne_eq_false_iff_eq.mpr c37
                      clear c37
                      replace H := Option.bind_eq_some_iff.mp H
                      obtain ⟨t255, A380, H⟩ := H
                      replace H : ((zoneinforef01_Same.f kj15 t255 (l1.take ((ji33) : Int).toNat)).bind fun t258 => (if t258 = true then ((transitions_Fit.f kj15 t252 t241).bind fun t259 => (some t259)) else (none))) = some r := H
                      have A38 := Aside0.mk A380
                      clear A380
                      replace H := Option.bind_eq_some_iff.mp H
                      obtain ⟨t258, A390, H⟩ := H
                      replace H : (if t258 = true then ((transitions_Fit.f kj15 t252 t241).bind fun t259 => (some t259)) else (none)) = some r := H
                      have A39 := Aside0.mk A390
                      clear A390
                      by_cases c40 : t258 = true
                      · subst c40
                        have H1 : ((transitions_Fit.f kj15 t252 t241).bind fun t259 => (some t259)) = some r := by rw [if_pos rfl] at H; exact H
                        clear H
                        have H := H1
                        clear H1
                        replace H := Option.bind_eq_some_iff.mp H
                        obtain ⟨t259, A410, H⟩ := H
                        replace H : (some t259) = some r := H
                        have A41 := Aside0.mk A410
                        clear A410
                        obtain rfl := Option.some.inj H
                        obtain ⟨i042, hi042, _, hsz42, _⟩ := info_parts info5
                        obtain ⟨hcut42, hA42, hC42⟩ := print_take_of (P := Try.prog) (Value.int .u8) 0 22 5 .i64 Try.underlying22 hi042 hsz42 A1 c1 l1 (ji33) (of_decide_eq_true (by first | (with_reducible assumption) | assumption)) (of_decide_eq_true (by first | (with_reducible assumption) | assumption)) HC1.out
                        have HR251 := Aside0.mk (Kd.C_of_reads (h1 := fun _ => rfl) (hA42 _ (Kd.reads_of_C HR1.out)))
                        have HC251 := Aside0.mk hC42
                        clear hA42 hC42 hi042 hsz42
                        go_wp2_with (first | ((with_reducible refine gate_callee (f := 10) rfl ?_); refine goesL_ (some 62) rfl rfl Try.func10 (by kernel_rfl) rfl #[.slice A1 (l1.take ((ji33) : Int).toNat).length c1, .int .i64 t241] rfl (by (try simp only [List.map_toArray, List.map_cons, List.map_nil]); first | done | (rw [show (l1.take ((ji33) : Int).toNat).length = (ji33).toNat from (by rw [List.length_take]; have h_ : ((ji33) : Int) ≤ (l1.length : Int) := of_decide_eq_true (by first | (with_reducible assumption) | assumption); omega)] <;> rfl) | (simp only [hji33]; rfl) | rfl | (simp only [List.length_drop, List.length_take]; rfl)) ?_; (with_reducible refine (transitions_Decode.calls kj15 _ _ (l1.take ((ji33) : Int).toNat) t241 t252 _ ?side1 ?side2 A36.out).mono ?_); (case side1 => repeat (first | exact (Kd.C_below HR251.out HB.out) | (with_reducible refine Kd.C_alloc ?_ _) | (with_reducible refine Kd.C_drewN ?_ _) | (with_reducible refine Kd.C_drew ?_))); (case side2 => exact HC251.out); rintro e w43 ⟨v253, rfl, ho0, hb⟩; refine ⟨_, rfl, ?_⟩; have n0_ := Aside0.mk (Kd.R_lower ho0 (below_size (by repeat (first | (with_reducible first | exact HB.out | apply below_alloc | apply pw_below_drewN | apply below_drew1) | exact HB.out)))); have n1_ := Aside0.mk (below_step (by repeat (first | (with_reducible first | exact HB.out | apply below_alloc | apply pw_below_drewN | apply below_drew1) | exact HB.out)) hb); clear HB; have HO254 := n0_; have HB := n1_; clear n0_ n1_; (try clear hb); (try clear hb2); (try clear hk); (try clear hi); (try clear ho0); obtain ⟨Ao44, co44, eo44⟩ := Kd.R_slice HO254.out; subst eo44) | (go_at_call 13; (with_reducible refine (transitions_Encode.calls kj15 _ _ t252 t241 t255 _ ?side1 ?side2 A38.out).mono ?_); (case side1 => repeat (first | exact (Kd.R_reads' HO254.out).2.2 | (with_reducible refine Kd.C_alloc ?_ _) | (with_reducible refine Kd.C_drewN ?_ _) | (with_reducible refine Kd.C_drew ?_))); (case side2 => exact (Kd.R_reads' HO254.out).2.1); rintro e w45 ⟨v256, rfl, ho0, hb⟩; have n0_ := Aside0.mk (Kd.R_below (by (with_reducible repeat (first | apply Kd.R_alloc | apply Kd.R_drewN | apply Kd.R_drew)); exact HO254.out) hb); have n1_ := Aside0.mk (Kd.R_lower ho0 (below_size (by repeat (first | (with_reducible first | exact HB.out | apply below_alloc | apply pw_below_drewN | apply below_drew1) | exact HB.out)))); have n2_ := Aside0.mk (below_step (by repeat (first | (with_reducible first | exact HB.out | apply below_alloc | apply pw_below_drewN | apply below_drew1) | exact HB.out)) hb); clear HO254; clear HB; have HO254 := n0_; have HO257 := n1_; have HB := n2_; clear n0_ n1_ n2_; (try clear hb); (try clear hb2); (try clear hk); (try clear hi); (try clear ho0); obtain ⟨Ao46, co46, eo46⟩ := Kd.R_slice HO257.out; subst eo46) | (go_at_call 12; (try (rw [← (show (l1.take ((ji33) : Int).toNat).length = ((ji33) : Int).toNat from by (have h_ := of_decide_eq_true (p := (ji33) ≤ (l1.length : Int)) (by assumption)); rw [List.length_take]; omega)])); (with_reducible refine (zoneinforef01_Same.calls kj15 _ _ t255 _ _ (l1.take ((ji33) : Int).toNat) true _ ?side1 ?side2 ?side3 ?side4 A39.out).mono ?_); (case side1 => repeat (first | exact (Kd.R_reads' HO257.out).2.2 | (with_reducible refine Kd.C_alloc ?_ _) | (with_reducible refine Kd.C_drewN ?_ _) | (with_reducible refine Kd.C_drew ?_))); (case side2 => exact (Kd.R_reads' HO257.out).2.1); (case side3 => repeat (first | exact (Kd.C_below HR251.out HB.out) | (with_reducible refine Kd.C_alloc ?_ _) | (with_reducible refine Kd.C_drewN ?_ _) | (with_reducible refine Kd.C_drew ?_))); (case side4 => exact HC251.out); rintro e w' ⟨rfl, ⟨nd, rfl⟩⟩) | (go_at_call 17; (with_reducible refine (transitions_Fit.calls kj15 _ _ t252 t241 t259 _ ?side1 ?side2 A41.out).mono ?_); (case side1 => repeat (first | exact (Kd.R_reads' HO254.out).2.2 | (with_reducible refine Kd.C_alloc ?_ _) | (with_reducible refine Kd.C_drewN ?_ _) | (with_reducible refine Kd.C_drew ?_))); (case side2 => exact (Kd.R_reads' HO254.out).2.1); rintro e w' ⟨rfl, ⟨nd, rfl⟩⟩))
                        go_ret
                        exact ⟨by first | rfl | (simp [errW_none, errW_some] <;> rfl) | (simp only [← hji33]; first | rfl | (simp [errW_none, errW_some] <;> rfl)) | (simp [*, errW_none, errW_some] <;> rfl), by repeat (first | (with_reducible first | exact HB.out | apply below_alloc | apply pw_below_drewN | apply below_drew1) | exact HB.out)⟩
                      · replace c40 := Bool.eq_false_iff.mpr c40
                        subst c40
                        have H1 : (none) = some r := by rw [if_neg (show ¬ (false = true) by decide)] at H; exact H
                        clear H
                        have H := H1
                        clear H1
                        exact absurd H (by simp)
                    · rw [if_neg c37] at H
                      exact absurd H (by simp)
                  · rw [if_neg c35] at H
                    exact absurd H (by simp)
                · rw [if_neg c34] at H
                  exact absurd H (by simp)

/-- THE ONE PURE STATEMENT of zoneinfolaw15_TransitionsRoundTrip: yours. -/
def zoneinfolaw15_TransitionsRoundTrip.Pure : Prop := ∀ (l0 : List Int) (l1 : List Int) (a2 : Bool), l0.length ≤ maxLen → l0.length * 8 ≤ 140737488351232 → (∀ x ∈ l0, (Lit.int .i64 x).wf = true) → l1.length ≤ maxLen → l1.length * 1 ≤ 140737488351232 → (∀ x ∈ l1, (Lit.int .u8 x).wf = true) → ∃ k, zoneinfolaw15_TransitionsRoundTrip.f k l0 l1 a2 = some true
theorem zoneinfolaw15_TransitionsRoundTrip.walk (P : zoneinfolaw15_TransitionsRoundTrip.Pure) (a0 : Option Addr) (len0 cap0 : Nat) (z0 : List Int) (a1 : Option Addr) (len1 cap1 : Nat) (z1 : List Int) (a2 : Bool) (w : World) (w0 : (a0 = none ∧ len0 = 0 ∧ cap0 = 0 ∧ z0 = []) ∨ ∃ x, a0 = some x ∧ len0 ≤ cap0 ∧ cap0 ≤ maxLen ∧ z0.length = cap0 ∧ (∀ i, i < z0.length → w.cell? (x.add i) = some (.int .i64 (z0.getD i 0))) ∧ ∀ n ∈ z0, (Lit.int .i64 n).wf = true) (y0 : len0 * 8 ≤ 140737488351232) (w1 : (a1 = none ∧ len1 = 0 ∧ cap1 = 0 ∧ z1 = []) ∨ ∃ x, a1 = some x ∧ len1 ≤ cap1 ∧ cap1 ≤ maxLen ∧ z1.length = cap1 ∧ (∀ i, i < z1.length → w.cell? (x.add i) = some (.int .u8 (z1.getD i 0))) ∧ ∀ n ∈ z1, (Lit.int .u8 n).wf = true) (y1 : len1 * 1 ≤ 140737488351232) :
    Calls Try.prog 4 #[.slice a0 len0 cap0, .slice a1 len1 cap1, .bool a2] w fun e w' => e = .returned (.bool true) ∧ Below w.heap.size w w' := by
  obtain ⟨l0, rfl, hr0, hm0, hw0, hc0⟩ := ReadsInt.ofRowC w0
  obtain ⟨l1, rfl, hr1, hm1, hw1, hc1⟩ := ReadsInt.ofRowC w1
  obtain ⟨k, h⟩ := P l0 l1 a2 hm0 y0 hw0 hm1 y1 hw1
  refine (zoneinfolaw15_TransitionsRoundTrip.calls k _ _ l0 _ _ l1 a2 true w (Kd.C_of_reads (d := (0 : Int)) (h1 := fun _ => rfl) hr0) hc0 (Kd.C_of_reads (d := (0 : Int)) (h1 := fun _ => rfl) hr1) hc1 h).mono ?_
  rintro e w' ⟨rfl, hd⟩
  exact ⟨rfl, hd⟩

end Go.Proofs.Ytcghocecejgeiaa.G
