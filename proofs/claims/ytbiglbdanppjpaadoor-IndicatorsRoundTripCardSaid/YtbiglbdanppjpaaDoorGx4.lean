/- Written by a program of this session for this seat: contracts of the functions that its laws reach, or the row of a law over its plain part. -/
import Derived.Test.YtbiglbdanppjpaaDoorGx0
import Derived.Test.YtbiglbdanppjpaaDoorGx1
import Derived.Test.YtbiglbdanppjpaaDoorGx2
import Derived.Test.YtbiglbdanppjpaaDoorGx3
namespace Go.Proofs.YtbiglbdanppjpaaDoor.G
open Go.RowKit Go.Proofs.YtbiglbdanppjpaaDoorW.PrintWords Go.Proofs.YtbiglbdanppjpaaDoorW.PrintLast Go.Proofs.YtbiglbdanppjpaaDoorW.PrintMore
attribute [local go_sem] max2_int min2_int max_two min_two max_three min_three max_four min_four   -- for this text's walks alone
set_option linter.unusedVariables false
set_option linter.unusedSimpArgs false

/-! ### zoneinfolaw18_IndicatorsRoundTrip: function 4 -/
mutual
def zoneinfolaw18_IndicatorsRoundTrip.j0 : Nat → List Bool → Int → Int → Bool → Option (Bool)
  | 0, _, _, _, _ => none
  | k + 1, x0, x1, x2, x18 => if x18 = true then ((zoneinfolaw18_awake.f k).bind fun t203 => (some t203)) else ((indicators_Encode.f k x0).bind fun t204 => ((indicators_Decode.f k t204).bind fun bt207 => (if (t204.length : Int) = (x0.length : Int) then (if bt207.2 = true then ((zoneinforef18_Same.f k bt207.1 x0).bind fun t211 => (zoneinfolaw18_IndicatorsRoundTrip.j1 k x1 x2 t204 (!t211))) else (zoneinfolaw18_IndicatorsRoundTrip.j1 k x1 x2 t204 true)) else (zoneinfolaw18_IndicatorsRoundTrip.j1 k x1 x2 t204 true))))
def zoneinfolaw18_IndicatorsRoundTrip.j1 : Nat → Int → Int → List Int → Bool → Option (Bool)
  | 0, _, _, _, _ => none
  | k + 1, x1, x2, x7, x41 => if x41 = true then (none) else (if (x7.length : Int) = 0 then (some true) else (if 0 ≤ (Int.tmod (wrap64 (x1)) (x7.length : Int)) then (if (Int.tmod (wrap64 (x1)) (x7.length : Int)) < (x7.length : Int) then ((some (x7.set ((Int.tmod (wrap64 (x1)) (x7.length : Int)) : Int).toNat x2 : List Int)).bind fun y212 => ((indicators_Decode.f k y212).bind fun bt213 => (if (bt213.2 == (decide (x2 ≤ 1))) = true then (if bt213.2 = true then ((indicators_Encode.f k bt213.1).bind fun t217 => ((zoneinforef01_Same.f k t217 y212).bind fun t220 => (some t220))) else (if (bt213.1.length : Int) = 0 then (some true) else (none))) else (none)))) else (none)) else (none)))
end
def zoneinfolaw18_IndicatorsRoundTrip.f (k : Nat) (l0 : List Bool) (a1 : Int) (a2 : Int) : Option (Bool) := (zoneinfolaw18_awake.f k).bind fun t202 => (if t202 = true then (zoneinfolaw18_IndicatorsRoundTrip.j0 k l0 a1 a2 (decide ((l0.length : Int) > 1000))) else (zoneinfolaw18_IndicatorsRoundTrip.j0 k l0 a1 a2 true))
theorem zoneinfolaw18_IndicatorsRoundTrip.mono_l : ∀ k, (∀ y0 y1 y2 y3, LeO (zoneinfolaw18_IndicatorsRoundTrip.j0 k y0 y1 y2 y3) (zoneinfolaw18_IndicatorsRoundTrip.j0 (k + 1) y0 y1 y2 y3)) ∧ (∀ y0 y1 y2 y3, LeO (zoneinfolaw18_IndicatorsRoundTrip.j1 k y0 y1 y2 y3) (zoneinfolaw18_IndicatorsRoundTrip.j1 (k + 1) y0 y1 y2 y3))
  | 0 => ⟨fun _ _ _ _ r h => by simp [zoneinfolaw18_IndicatorsRoundTrip.j0] at h, fun _ _ _ _ r h => by simp [zoneinfolaw18_IndicatorsRoundTrip.j1] at h⟩
  | k + 1 => by
    obtain ⟨ih0, ih1⟩ := zoneinfolaw18_IndicatorsRoundTrip.mono_l k
    refine ⟨?_, ?_⟩
    · intro y0 y1 y2 y3
      unfold zoneinfolaw18_IndicatorsRoundTrip.j0
      repeat' first
      | (with_reducible exact ih0 _ _ _ _)
      | (with_reducible exact ih1 _ _ _ _)
      | (with_reducible exact indicators_Decode.mono _ _)
      | (with_reducible exact indicators_Encode.mono _ _)
      | (with_reducible exact zoneinfolaw18_awake.mono _)
      | (with_reducible exact zoneinforef01_Same.mono _ _ _)
      | (with_reducible exact zoneinforef18_Same.mono _ _ _)
      | (with_reducible exact LeO.refl _)
      | (with_reducible exact LeO.none _)
      | (with_reducible refine LeO.ite ?_ ?_)
      | (with_reducible refine LeO.bind ?_ (fun _ => ?_))
      | exact ih0 _ _ _ _
      | exact ih1 _ _ _ _
      | exact indicators_Decode.mono _ _
      | exact indicators_Encode.mono _ _
      | exact zoneinfolaw18_awake.mono _
      | exact zoneinforef01_Same.mono _ _ _
      | exact zoneinforef18_Same.mono _ _ _
      | exact LeO.none _
      | refine LeO.ite ?_ ?_
      | refine LeO.bind ?_ (fun _ => ?_)
    · intro y0 y1 y2 y3
      unfold zoneinfolaw18_IndicatorsRoundTrip.j1
      repeat' first
      | (with_reducible exact ih0 _ _ _ _)
      | (with_reducible exact ih1 _ _ _ _)
      | (with_reducible exact indicators_Decode.mono _ _)
      | (with_reducible exact indicators_Encode.mono _ _)
      | (with_reducible exact zoneinfolaw18_awake.mono _)
      | (with_reducible exact zoneinforef01_Same.mono _ _ _)
      | (with_reducible exact zoneinforef18_Same.mono _ _ _)
      | (with_reducible exact LeO.refl _)
      | (with_reducible exact LeO.none _)
      | (with_reducible refine LeO.ite ?_ ?_)
      | (with_reducible refine LeO.bind ?_ (fun _ => ?_))
      | exact ih0 _ _ _ _
      | exact ih1 _ _ _ _
      | exact indicators_Decode.mono _ _
      | exact indicators_Encode.mono _ _
      | exact zoneinfolaw18_awake.mono _
      | exact zoneinforef01_Same.mono _ _ _
      | exact zoneinforef18_Same.mono _ _ _
      | exact LeO.none _
      | refine LeO.ite ?_ ?_
      | refine LeO.bind ?_ (fun _ => ?_)
theorem zoneinfolaw18_IndicatorsRoundTrip.mono : ∀ a0 a1 a2 k, LeO (zoneinfolaw18_IndicatorsRoundTrip.f k a0 a1 a2) (zoneinfolaw18_IndicatorsRoundTrip.f (k + 1) a0 a1 a2) := by
  intro a0 a1 a2 k
  obtain ⟨ih0, ih1⟩ := zoneinfolaw18_IndicatorsRoundTrip.mono_l k
  unfold zoneinfolaw18_IndicatorsRoundTrip.f
  repeat' first
      | (with_reducible exact ih0 _ _ _ _)
      | (with_reducible exact ih1 _ _ _ _)
      | (with_reducible exact indicators_Decode.mono _ _)
      | (with_reducible exact indicators_Encode.mono _ _)
      | (with_reducible exact zoneinfolaw18_awake.mono _)
      | (with_reducible exact zoneinforef01_Same.mono _ _ _)
      | (with_reducible exact zoneinforef18_Same.mono _ _ _)
      | (with_reducible exact LeO.refl _)
      | (with_reducible exact LeO.none _)
      | (with_reducible refine LeO.ite ?_ ?_)
      | (with_reducible refine LeO.bind ?_ (fun _ => ?_))
      | exact ih0 _ _ _ _
      | exact ih1 _ _ _ _
      | exact indicators_Decode.mono _ _
      | exact indicators_Encode.mono _ _
      | exact zoneinfolaw18_awake.mono _
      | exact zoneinforef01_Same.mono _ _ _
      | exact zoneinforef18_Same.mono _ _ _
      | exact LeO.none _
      | refine LeO.ite ?_ ?_
      | refine LeO.bind ?_ (fun _ => ?_)
set_option maxHeartbeats 8000000 in
set_option maxRecDepth 100000 in
theorem zoneinfolaw18_IndicatorsRoundTrip.calls (k : Nat) (A0 : Option Addr) (c0 : Nat) (l0 : List Bool) (a1 : Int) (a2 : Int) (r : Bool) (w : World) (hr0 : Kd.C Kd.bool w A0 l0.length l0) (hc0 : l0.length ≤ c0) (hrg : GL w) (h : zoneinfolaw18_IndicatorsRoundTrip.f k l0 a1 a2 = some r) :
    Calls Tryd.prog 4 #[.slice A0 l0.length c0, .int .u16 a1, .int .u8 a2] w fun e w' => e = .returned (.bool r) ∧ Below w.heap.size w w' := by
  have HRg := Aside0.mk hrg
  clear hrg
  have HR0 := Aside0.mk hr0
  have HC0 := Aside0.mk hc0
  clear hr0 hc0
  have HB := Aside0.mk (Below.refl w.heap.size w)
  have H : ((zoneinfolaw18_awake.f k).bind fun t202 => (if t202 = true then (zoneinfolaw18_IndicatorsRoundTrip.j0 k l0 a1 a2 (decide ((l0.length : Int) > 1000))) else (zoneinfolaw18_IndicatorsRoundTrip.j0 k l0 a1 a2 true))) = some r := h
  clear h
  have HC4 := Aside0.mk H
  clear H
  go_enter Tryd.func4, Tryd.ntmps4
  go_upto_region 1 with (fail)
  go_cut [18] (fun v18 wc => ∃ (kq : Nat) (x18_3 : Bool), v18 = .bool x18_3 ∧ Aside0 (zoneinfolaw18_IndicatorsRoundTrip.j0 kq l0 a1 a2 x18_3 = some r) ∧ Aside0 (kq ≤ k) ∧ Aside0 (Below w.heap.size w wc))
  case first =>
    have H := HC4.out
    clear HC4
    replace H := Option.bind_eq_some_iff.mp H
    obtain ⟨t202, A50, H⟩ := H
    replace H : (if t202 = true then (zoneinfolaw18_IndicatorsRoundTrip.j0 k l0 a1 a2 (decide ((l0.length : Int) > 1000))) else (zoneinfolaw18_IndicatorsRoundTrip.j0 k l0 a1 a2 true)) = some r := H
    have A5 := Aside0.mk A50
    clear A50
    by_cases c6 : t202 = true
    · subst c6
      have H1 : (zoneinfolaw18_IndicatorsRoundTrip.j0 k l0 a1 a2 (decide ((l0.length : Int) > 1000))) = some r := by rw [if_pos rfl] at H; exact H
      clear H
      have H := H1
      clear H1
      have H' := Aside0.mk H
      clear H
      go_wp2_with (first | (go_at_call 7; (with_reducible refine (zoneinfolaw18_awake.calls k  true _ ?side1 A5.out).mono ?_); (case side1 => repeat (first | exact (Kd.C_below HRg.out HB.out) | (with_reducible refine Kd.C_alloc ?_ _) | (with_reducible refine Kd.C_drewN ?_ _) | (with_reducible refine Kd.C_drew ?_))); rintro e w7 ⟨rfl, hb⟩; have n0_ := Aside0.mk (below_step (by repeat (first | (with_reducible first | exact HB.out | apply below_alloc | apply pw_below_drewN | apply below_drew1) | exact HB.out)) hb); clear HB; have HB := n0_; clear n0_; (try clear hb); (try clear hb2); (try clear hk); (try clear hi)))
      go_meet
      case rel => exact ⟨_, (decide ((l0.length : Int) > 1000)), (by first | rfl | (simp; done) | (simp [*]; done)), H', ⟨by first | omega | exact Nat.le_refl _⟩, ⟨by repeat (first | (with_reducible first | exact HB.out | apply below_alloc | apply pw_below_drewN | apply below_drew1) | exact HB.out)⟩⟩
    · replace c6 := Bool.eq_false_iff.mpr c6
      subst c6
      have H1 : (zoneinfolaw18_IndicatorsRoundTrip.j0 k l0 a1 a2 true) = some r := by rw [if_neg (show ¬ (false = true) by decide)] at H; exact H
      clear H
      have H := H1
      clear H1
      have H' := Aside0.mk H
      clear H
      go_wp2_with (first | (go_at_call 7; (with_reducible refine (zoneinfolaw18_awake.calls k  false _ ?side1 A5.out).mono ?_); (case side1 => repeat (first | exact (Kd.C_below HRg.out HB.out) | (with_reducible refine Kd.C_alloc ?_ _) | (with_reducible refine Kd.C_drewN ?_ _) | (with_reducible refine Kd.C_drew ?_))); rintro e w8 ⟨rfl, hb⟩; have n0_ := Aside0.mk (below_step (by repeat (first | (with_reducible first | exact HB.out | apply below_alloc | apply pw_below_drewN | apply below_drew1) | exact HB.out)) hb); clear HB; have HB := n0_; clear n0_; (try clear hb); (try clear hb2); (try clear hk); (try clear hi)))
      go_meet
      case rel => exact ⟨_, (true), (by first | rfl | (simp; done) | (simp [*]; done)), H', ⟨by first | omega | exact Nat.le_refl _⟩, ⟨by repeat (first | (with_reducible first | exact HB.out | apply below_alloc | apply pw_below_drewN | apply below_drew1) | exact HB.out)⟩⟩
  case rest =>
    clear HC4
    try clear p2
    try clear c4
    try clear c6
    obtain ⟨kq, x18_3, rfl, HA, HJ3, HB⟩ := hcut
    cases kq with
    | zero => exact absurd HA.out (by simp [zoneinfolaw18_IndicatorsRoundTrip.j0])
    | succ kj3 =>
      have H := HA.out
      clear HA
      simp only [zoneinfolaw18_IndicatorsRoundTrip.j0] at H
      by_cases c9 : x18_3 = true
      · subst c9
        have H1 : ((zoneinfolaw18_awake.f kj3).bind fun t203 => (some t203)) = some r := by rw [if_pos rfl] at H; exact H
        clear H
        have H := H1
        clear H1
        replace H := Option.bind_eq_some_iff.mp H
        obtain ⟨t203, A100, H⟩ := H
        replace H : (some t203) = some r := H
        have A10 := Aside0.mk A100
        clear A100
        obtain rfl := Option.some.inj H
        go_wp2_with (first | ((with_reducible refine gate_callee (f := 7) rfl ?_); refine goesL_ (some 19) rfl rfl Tryd.func7 (by kernel_rfl) rfl #[] rfl (by (try simp only [List.map_toArray, List.map_cons, List.map_nil]); first | done | rfl | (simp only [List.length_drop, List.length_take]; rfl)) ?_; (with_reducible refine (zoneinfolaw18_awake.calls kj3  t203 _ ?side1 A10.out).mono ?_); (case side1 => repeat (first | exact (Kd.C_below HRg.out HB.out) | (with_reducible refine Kd.C_alloc ?_ _) | (with_reducible refine Kd.C_drewN ?_ _) | (with_reducible refine Kd.C_drew ?_))); rintro e w11 ⟨rfl, hb⟩; refine ⟨_, rfl, ?_⟩; have n0_ := Aside0.mk (below_step (by repeat (first | (with_reducible first | exact HB.out | apply below_alloc | apply pw_below_drewN | apply below_drew1) | exact HB.out)) hb); clear HB; have HB := n0_; clear n0_; (try clear hb); (try clear hb2); (try clear hk); (try clear hi)))
        go_ret
        exact ⟨by first | rfl | (simp [errW_none, errW_some] <;> rfl) | (simp [*, errW_none, errW_some] <;> rfl), by repeat (first | (with_reducible first | exact HB.out | apply below_alloc | apply pw_below_drewN | apply below_drew1) | exact HB.out)⟩
      · replace c9 := Bool.eq_false_iff.mpr c9
        subst c9
        have H1 : ((indicators_Encode.f kj3 l0).bind fun t204 => ((indicators_Decode.f kj3 t204).bind fun bt207 => (if (t204.length : Int) = (l0.length : Int) then (if bt207.2 = true then ((zoneinforef18_Same.f kj3 bt207.1 l0).bind fun t211 => (zoneinfolaw18_IndicatorsRoundTrip.j1 kj3 a1 a2 t204 (!t211))) else (zoneinfolaw18_IndicatorsRoundTrip.j1 kj3 a1 a2 t204 true)) else (zoneinfolaw18_IndicatorsRoundTrip.j1 kj3 a1 a2 t204 true)))) = some r := by rw [if_neg (show ¬ (false = true) by decide)] at H; exact H
        clear H
        have H := H1
        clear H1
        replace H := Option.bind_eq_some_iff.mp H
        obtain ⟨t204, A120, H⟩ := H
        replace H : ((indicators_Decode.f kj3 t204).bind fun bt207 => (if (t204.length : Int) = (l0.length : Int) then (if bt207.2 = true then ((zoneinforef18_Same.f kj3 bt207.1 l0).bind fun t211 => (zoneinfolaw18_IndicatorsRoundTrip.j1 kj3 a1 a2 t204 (!t211))) else (zoneinfolaw18_IndicatorsRoundTrip.j1 kj3 a1 a2 t204 true)) else (zoneinfolaw18_IndicatorsRoundTrip.j1 kj3 a1 a2 t204 true))) = some r := H
        have A12 := Aside0.mk A120
        clear A120
        replace H := Option.bind_eq_some_iff.mp H
        obtain ⟨⟨t207, t208⟩, A130, H⟩ := H
        replace H : (if (t204.length : Int) = (l0.length : Int) then (if t208 = true then ((zoneinforef18_Same.f kj3 t207 l0).bind fun t211 => (zoneinfolaw18_IndicatorsRoundTrip.j1 kj3 a1 a2 t204 (!t211))) else (zoneinfolaw18_IndicatorsRoundTrip.j1 kj3 a1 a2 t204 true)) else (zoneinfolaw18_IndicatorsRoundTrip.j1 kj3 a1 a2 t204 true)) = some r := H
        have A13 := Aside0.mk A130
        clear A130
        have HC14 := Aside0.mk H
        clear H
        go_upto_region 5 with (first | ((with_reducible refine gate_callee (f := 12) rfl ?_); refine goesL_ (some 21) rfl rfl Tryd.func12 (by kernel_rfl) rfl #[.slice A0 l0.length c0] rfl (by (try simp only [List.map_toArray, List.map_cons, List.map_nil]); first | done | rfl | (simp only [List.length_drop, List.length_take]; rfl)) ?_; (with_reducible refine (indicators_Encode.calls kj3 _ _ l0 t204 _ ?side1 ?side2 A12.out).mono ?_); (case side1 => repeat (first | exact (Kd.C_below HR0.out HB.out) | (with_reducible refine Kd.C_alloc ?_ _) | (with_reducible refine Kd.C_drewN ?_ _) | (with_reducible refine Kd.C_drew ?_))); (case side2 => exact HC0.out); rintro e w15 ⟨v205, rfl, ho0, hb⟩; refine ⟨_, rfl, ?_⟩; have n0_ := Aside0.mk (Kd.R_lower ho0 (below_size (by repeat (first | (with_reducible first | exact HB.out | apply below_alloc | apply pw_below_drewN | apply below_drew1) | exact HB.out)))); have n1_ := Aside0.mk (below_step (by repeat (first | (with_reducible first | exact HB.out | apply below_alloc | apply pw_below_drewN | apply below_drew1) | exact HB.out)) hb); clear HB; have HO206 := n0_; have HB := n1_; clear n0_ n1_; (try clear hb); (try clear hb2); (try clear hk); (try clear hi); (try clear ho0); obtain ⟨Ao16, co16, eo16⟩ := Kd.R_slice HO206.out; subst eo16) | ((with_reducible refine gate_callee (f := 8) rfl ?_); refine goesL_ (some 24) rfl rfl Tryd.func8 (by kernel_rfl) rfl #[.slice Ao16 t204.length co16] rfl (by (try simp only [List.map_toArray, List.map_cons, List.map_nil]); first | done | rfl | (simp only [List.length_drop, List.length_take]; rfl)) ?_; (with_reducible refine (indicators_Decode.calls kj3 _ _ t204 t207 t208 _ ?side1 ?side2 ?side3 A13.out).mono ?_); (case side1 => repeat (first | exact (Kd.R_reads' HO206.out).2.2 | (with_reducible refine Kd.C_alloc ?_ _) | (with_reducible refine Kd.C_drewN ?_ _) | (with_reducible refine Kd.C_drew ?_))); (case side2 => exact (Kd.R_reads' HO206.out).2.1); (case side3 => repeat (first | exact (Kd.C_below HRg.out HB.out) | (with_reducible refine Kd.C_alloc ?_ _) | (with_reducible refine Kd.C_drewN ?_ _) | (with_reducible refine Kd.C_drew ?_))); rintro e w17 ⟨v209, rfl, ho0, hb⟩; refine ⟨_, rfl, ?_⟩; have n0_ := Aside0.mk (Kd.R_below (by (with_reducible repeat (first | apply Kd.R_alloc | apply Kd.R_drewN | apply Kd.R_drew)); exact HO206.out) hb); have n1_ := Aside0.mk (Kd.R_lower ho0 (below_size (by repeat (first | (with_reducible first | exact HB.out | apply below_alloc | apply pw_below_drewN | apply below_drew1) | exact HB.out)))); have n2_ := Aside0.mk (below_step (by repeat (first | (with_reducible first | exact HB.out | apply below_alloc | apply pw_below_drewN | apply below_drew1) | exact HB.out)) hb); clear HO206; clear HB; have HO206 := n0_; have HO210 := n1_; have HB := n2_; clear n0_ n1_ n2_; (try clear hb); (try clear hb2); (try clear hk); (try clear hi); (try clear ho0)))
        (try simp only [Act.put, List.setIfInBounds_toArray, List.set_cons_zero, List.set_cons_succ])
        go_cut [41] (fun v41 wc => ∃ (kq : Nat) (x41_13 : Bool), v41 = .bool x41_13 ∧ Aside0 (zoneinfolaw18_IndicatorsRoundTrip.j1 kq a1 a2 t204 x41_13 = some r) ∧ Aside0 (kq ≤ kj3) ∧ Aside0 (Kd.R (Kd.int .u8) 5 wc w.heap.size (fun _ => True) (.slice Ao16 t204.length co16) t204) ∧ Aside0 (Below w.heap.size w wc))
        case first =>
          have H := HC14.out
          clear HC14
          by_cases c18 : (t204.length : Int) = (l0.length : Int)
          · rw [if_pos c18] at H
            have c18b0 : ((t204.length : Int) == (l0.length : Int)) = true := beq_iff_eq.mpr c18
            have c18b1 : ((t204.length : Int) != (l0.length : Int)) = false := bne_eq_false_iff_eq.mpr c18
            have c18b2 : (t204.length == l0.length) = true := by first | simpa using c18 | (simp at c18 ⊢; omega)
            clear c18
            (first | rw [c18b0] | (simp only [i64_w, i32_w]; rw [c18b0]) | skip)
            by_cases c19 : t208 = true
            · subst c19
              have H1 : ((zoneinforef18_Same.f kj3 t207 l0).bind fun t211 => (zoneinfolaw18_IndicatorsRoundTrip.j1 kj3 a1 a2 t204 (!t211))) = some r := by rw [if_pos rfl] at H; exact H
              clear H
              have H := H1
              clear H1
              replace H := Option.bind_eq_some_iff.mp H
              obtain ⟨t211, A200, H⟩ := H
              replace H : (zoneinfolaw18_IndicatorsRoundTrip.j1 kj3 a1 a2 t204 (!t211)) = some r := H
              have A20 := Aside0.mk A200
              clear A200
              have H' := Aside0.mk H
              clear H
              obtain ⟨Ao21, co21, eo21⟩ := Kd.R_slice HO210.out
              subst eo21
              go_wp2_with (first | (go_at_call 10; (with_reducible refine (zoneinforef18_Same.calls kj3 _ _ t207 _ _ l0 t211 _ ?side1 ?side2 ?side3 ?side4 A20.out).mono ?_); (case side1 => repeat (first | exact (Kd.R_reads' HO210.out).2.2 | (with_reducible refine Kd.C_alloc ?_ _) | (with_reducible refine Kd.C_drewN ?_ _) | (with_reducible refine Kd.C_drew ?_))); (case side2 => exact (Kd.R_reads' HO210.out).2.1); (case side3 => repeat (first | exact (Kd.C_below HR0.out HB.out) | (with_reducible refine Kd.C_alloc ?_ _) | (with_reducible refine Kd.C_drewN ?_ _) | (with_reducible refine Kd.C_drew ?_))); (case side4 => exact HC0.out); rintro e w' ⟨rfl, ⟨nd, rfl⟩⟩))
              go_meet
              case rel => exact ⟨_, (!t211), (by first | rfl | (simp; done) | (simp [*]; done)), H', ⟨by have := HJ3.out; first | omega | exact Nat.le_refl _⟩, ⟨by (with_reducible repeat (first | apply Kd.R_alloc | apply Kd.R_drewN | apply Kd.R_drew)); exact HO206.out⟩, ⟨by repeat (first | (with_reducible first | exact HB.out | apply below_alloc | apply pw_below_drewN | apply below_drew1) | exact HB.out)⟩⟩
            · replace c19 := Bool.eq_false_iff.mpr c19
              subst c19
              have H1 : (zoneinfolaw18_IndicatorsRoundTrip.j1 kj3 a1 a2 t204 true) = some r := by rw [if_neg (show ¬ (false = true) by decide)] at H; exact H
              clear H
              have H := H1
              clear H1
              have H' := Aside0.mk H
              clear H
              go_wp2
              go_meet
              case rel => exact ⟨_, (true), (by first | rfl | (simp; done) | (simp [*]; done)), H', ⟨by have := HJ3.out; first | omega | exact Nat.le_refl _⟩, ⟨by (with_reducible repeat (first | apply Kd.R_alloc | apply Kd.R_drewN | apply Kd.R_drew)); exact HO206.out⟩, ⟨by repeat (first | (with_reducible first | exact HB.out | apply below_alloc | apply pw_below_drewN | apply below_drew1) | exact HB.out)⟩⟩
          · rw [if_neg c18] at H
            have c18b0 : ((t204.length : Int) == (l0.length : Int)) = false := beq_eq_false_iff_ne.mpr c18
            have c18b1 : ((t204.length : Int) != (l0.length : Int)) = true := bne_iff_ne.mpr c18
            have c18b2 : (t204.length == l0.length) = false := by first | simpa using c18 | (simp at c18 ⊢; omega)
            (first | rw [c18b0] | (simp only [i64_w, i32_w]; rw [c18b0]) | skip)
            have H' := Aside0.mk H
            clear H
            go_wp2
            go_meet
            case rel => exact ⟨_, (true), (by first | rfl | (simp; done) | (simp [*]; done)), H', ⟨by have := HJ3.out; first | omega | exact Nat.le_refl _⟩, ⟨by (with_reducible repeat (first | apply Kd.R_alloc | apply Kd.R_drewN | apply Kd.R_drew)); exact HO206.out⟩, ⟨by repeat (first | (with_reducible first | exact HB.out | apply below_alloc | apply pw_below_drewN | apply below_drew1) | exact HB.out)⟩⟩
        case rest =>
          clear HC14
          try clear c1
          try clear p2
          try clear c4
          try clear c6
          try clear c7
          try clear c8
          try clear c9
          try clear c12
          try clear c18
          try clear c18b0
          try clear c18b1
          try clear c18b2
          try clear c19
          try clear p2
          obtain ⟨kq, x41_13, rfl, HA, HJ13, HO_7, HB⟩ := hcut
          cases kq with
          | zero => exact absurd HA.out (by simp [zoneinfolaw18_IndicatorsRoundTrip.j1])
          | succ kj13 =>
            have H := HA.out
            clear HA
            simp only [zoneinfolaw18_IndicatorsRoundTrip.j1] at H
            by_cases c22 : x41_13 = true
            · subst c22
              have H1 : (none) = some r := by rw [if_pos rfl] at H; exact H
              clear H
              have H := H1
              clear H1
              exact absurd H (by simp)
            · replace c22 := Bool.eq_false_iff.mpr c22
              subst c22
              have H1 : (if (t204.length : Int) = 0 then (some true) else (if 0 ≤ (Int.tmod (wrap64 (a1)) (t204.length : Int)) then (if (Int.tmod (wrap64 (a1)) (t204.length : Int)) < (t204.length : Int) then ((some (t204.set ((Int.tmod (wrap64 (a1)) (t204.length : Int)) : Int).toNat a2 : List Int)).bind fun y212 => ((indicators_Decode.f kj13 y212).bind fun bt213 => (if (bt213.2 == (decide (a2 ≤ 1))) = true then (if bt213.2 = true then ((indicators_Encode.f kj13 bt213.1).bind fun t217 => ((zoneinforef01_Same.f kj13 t217 y212).bind fun t220 => (some t220))) else (if (bt213.1.length : Int) = 0 then (some true) else (none))) else (none)))) else (none)) else (none))) = some r := by rw [if_neg (show ¬ (false = true) by decide)] at H; exact H
              clear H
              have H := H1
              clear H1
              by_cases c23 : (t204.length : Int) = 0
              · rw [if_pos c23] at H
                have c23b0 : ((t204.length : Int) == 0) = true := beq_iff_eq.mpr c23
                have c23b1 : ((t204.length : Int) != 0) = false := bne_eq_false_iff_eq.mpr c23
                clear c23
                obtain rfl := Option.some.inj H
                go_wp2
                go_ret
                exact ⟨by first | rfl | (simp [errW_none, errW_some] <;> rfl) | (simp [*, errW_none, errW_some] <;> rfl), by repeat (first | (with_reducible first | exact HB.out | apply below_alloc | apply pw_below_drewN | apply below_drew1) | exact HB.out)⟩
              · rw [if_neg c23] at H
                have c23b0 : ((t204.length : Int) == 0) = false := beq_eq_false_iff_ne.mpr c23
                have c23b1 : ((t204.length : Int) != 0) = true := bne_iff_ne.mpr c23
                have c23b2 : ¬ (t204 = []) := fun h_ => c23 (by rw [h_]; rfl)
                obtain ⟨ji24, hji24⟩ : ∃ j_ : Int, (Int.tmod (wrap64 (a1)) (t204.length : Int)) = j_ := ⟨_, rfl⟩
                replace H : (if 0 ≤ (ji24) then (if (ji24) < (t204.length : Int) then ((some (t204.set ((ji24) : Int).toNat a2 : List Int)).bind fun y212 => ((indicators_Decode.f kj13 y212).bind fun bt213 => (if (bt213.2 == (decide (a2 ≤ 1))) = true then (if bt213.2 = true then ((indicators_Encode.f kj13 bt213.1).bind fun t217 => ((zoneinforef01_Same.f kj13 t217 y212).bind fun t220 => (some t220))) else (if (bt213.1.length : Int) = 0 then (some true) else (none))) else (none)))) else (none)) else (none)) = some r := by first | (rw [hji24] at H; exact H) | (simp only [hji24] at H ⊢; exact H)
                by_cases c25 : 0 ≤ (ji24)
                · rw [if_pos c25] at H
                  have c25b0 : decide (0 ≤ (ji24)) = true := decide_eq_true c25
                  clear c25
                  by_cases c26 : (ji24) < (t204.length : Int)
                  · rw [if_pos c26] at H
                    have c26b0 : decide ((ji24) < (t204.length : Int)) = true := decide_eq_true c26
                    clear c26
                    obtain ⟨y212, hy212⟩ : ∃ y_ : List Int, y_ = (t204.set ((ji24) : Int).toNat a2) := ⟨_, rfl⟩
                    replace H : ((indicators_Decode.f kj13 y212).bind fun bt213 => (if (bt213.2 == (decide (a2 ≤ 1))) = true then (if bt213.2 = true then ((indicators_Encode.f kj13 bt213.1).bind fun t217 => ((zoneinforef01_Same.f kj13 t217 y212).bind fun t220 => (some t220))) else (if (bt213.1.length : Int) = 0 then (some true) else (none))) else (none))) = some r := by first | (rw [hy212]; with_reducible exact H) | (have H2_ := (Option.bind_some _ _).symm.trans H; rw [hy212]; with_reducible exact H2_) | (have H2_ := (Option.bind_some _ _).symm.trans H; with_reducible exact H2_) | with_reducible exact H | (rw [hy212]; exact H) | exact H
                    have Ny212 := Aside0.mk hy212
                    clear hy212
                    replace H := Option.bind_eq_some_iff.mp H
                    obtain ⟨⟨t213, t214⟩, A280, H⟩ := H
                    replace H : (if (t214 == (decide (a2 ≤ 1))) = true then (if t214 = true then ((indicators_Encode.f kj13 t213).bind fun t217 => ((zoneinforef01_Same.f kj13 t217 y212).bind fun t220 => (some t220))) else (if (t213.length : Int) = 0 then (some true) else (none))) else (none)) = some r := H
                    have A28 := Aside0.mk A280
                    clear A280
                    by_cases c29 : (t214 == (decide (a2 ≤ 1))) = true
                    · rw [if_pos c29] at H
                      have c29b0 : (t214 == (decide (a2 ≤ 1))) = true := c29
                      (try (have c29b1 : decide (t214 = (decide (a2 ≤ 1))) = true := by simpa using c29))
                      (try (have c29b2 : (t214 == (decide (a2 ≤ 1))) = true := by simpa using c29))
                      clear c29
                      by_cases c30 : t214 = true
                      · subst c30
                        have H1 : ((indicators_Encode.f kj13 t213).bind fun t217 => ((zoneinforef01_Same.f kj13 t217 y212).bind fun t220 => (some t220))) = some r := by rw [if_pos rfl] at H; exact H
                        clear H
                        have H := H1
                        clear H1
                        replace H := Option.bind_eq_some_iff.mp H
                        obtain ⟨t217, A310, H⟩ := H
                        replace H : ((zoneinforef01_Same.f kj13 t217 y212).bind fun t220 => (some t220)) = some r := H
                        have A31 := Aside0.mk A310
                        clear A310
                        replace H := Option.bind_eq_some_iff.mp H
                        obtain ⟨t220, A320, H⟩ := H
                        replace H : (some t220) = some r := H
                        have A32 := Aside0.mk A320
                        clear A320
                        obtain rfl := Option.some.inj H
                        have p27 : 0 ≤ ((ji24) : Int) := of_decide_eq_true (by first | (with_reducible assumption) | assumption)
                        have q27 : ((ji24) : Int) < ((t204.length : Int) : Int) := of_decide_eq_true (by first | (with_reducible assumption) | assumption)
                        obtain ⟨go27, co27, eo27, gb27, gl27, cl27, HG27⟩ := Kd.R_form HO_7.out (by omega)
                        (first | cases eo27 | (injection eo27 with ea_ en_ ec_; (first | subst ea_ | (injection ea_ with ea_; subst ea_)); subst ec_; clear en_))
                        have GB27 := Aside0.mk gb27
                        have GG27 := Aside0.mk HG27
                        clear gb27 gl27 HG27
                        obtain ⟨hx27_0, hf27_0⟩ := Kd.R_celln 0 HO_7.out ((ji24) : Int) p27 q27
                        replace p27 := eq_true p27
                        replace q27 := eq_true q27
                        have HP33 := Kd.R_putg HO_7.out ((ji24) : Int) a2
                        go_wp2_with (first | ((with_reducible refine gate_store (t := 5) (p := 52) rfl ?_); refine store_event (t := 5) (p := 52) (v := ?vo_w34) (w1 := (wc.setCell ⟨go27, ((ji24) : Int).toNat, none⟩ (.int .u8 a2))) ?hg ?ho ?hn ?hr ?_; (case ho => rfl); (case hg => rfl); (case hn => rfl); (case hr => first | (go_simp; done) | (go_simp; rfl)); intro w34 hw; have hg : wc.grownBy w34 (some go27) := (by rw [hw]; exact HP33.2); have hp_ : Kd.R (Kd.int .u8) 5 w34 w.heap.size (fun _ => True) (.slice (some ⟨go27, 0, none⟩) t204.length co16) y212 := (by rw [hw, Ny212.out]; exact HP33.1); clear HP33; have n0_ := Aside0.mk (hp_); have n1_ := Aside0.mk ((by rw [hw]; exact below_set (HB.out) GB27.out : Below w.heap.size w w34)); clear HO_7; clear HB; have HO_7 := n0_; have HB := n1_; clear n0_ n1_; clear hg hw hp_) | ((with_reducible refine gate_callee (f := 8) rfl ?_); refine goesL_ (some 55) rfl rfl Tryd.func8 (by kernel_rfl) rfl #[.slice (some ⟨go27, 0, none⟩) y212.length co16] rfl (by (try simp only [List.map_toArray, List.map_cons, List.map_nil]); first | done | (rw [show y212.length = t204.length from (Kd.R_reads' HO_7.out).1.symm] <;> rfl) | rfl | (simp only [List.length_drop, List.length_take]; rfl)) ?_; (with_reducible refine (indicators_Decode.calls kj13 _ _ y212 t213 true _ ?side1 ?side2 ?side3 A28.out).mono ?_); (case side1 => repeat (first | exact (Kd.R_reads' HO_7.out).2.2 | (with_reducible refine Kd.C_alloc ?_ _) | (with_reducible refine Kd.C_drewN ?_ _) | (with_reducible refine Kd.C_drew ?_))); (case side2 => rw [show y212.length = t204.length from (Kd.R_reads' HO_7.out).1.symm]; exact (Kd.R_reads' HO_7.out).2.1); (case side3 => repeat (first | exact (Kd.C_below HRg.out HB.out) | (with_reducible refine Kd.C_alloc ?_ _) | (with_reducible refine Kd.C_drewN ?_ _) | (with_reducible refine Kd.C_drew ?_))); rintro e w35 ⟨v215, rfl, ho0, hb⟩; refine ⟨_, rfl, ?_⟩; have n0_ := Aside0.mk (Kd.R_below (by (with_reducible repeat (first | apply Kd.R_alloc | apply Kd.R_drewN | apply Kd.R_drew)); exact HO_7.out) hb); have n1_ := Aside0.mk (Kd.R_lower ho0 (below_size (by repeat (first | (with_reducible first | exact HB.out | apply below_alloc | apply pw_below_drewN | apply below_drew1) | exact HB.out)))); have n2_ := Aside0.mk (below_step (by repeat (first | (with_reducible first | exact HB.out | apply below_alloc | apply pw_below_drewN | apply below_drew1) | exact HB.out)) hb); clear HO_7; clear HB; have HO_7 := n0_; have HO216 := n1_; have HB := n2_; clear n0_ n1_ n2_; (try clear hb); (try clear hb2); (try clear hk); (try clear hi); (try clear ho0); obtain ⟨Ao36, co36, eo36⟩ := Kd.R_slice HO216.out; subst eo36) | (go_at_call 12; (with_reducible refine (indicators_Encode.calls kj13 _ _ t213 t217 _ ?side1 ?side2 A31.out).mono ?_); (case side1 => repeat (first | exact (Kd.R_reads' HO216.out).2.2 | (with_reducible refine Kd.C_alloc ?_ _) | (with_reducible refine Kd.C_drewN ?_ _) | (with_reducible refine Kd.C_drew ?_))); (case side2 => exact (Kd.R_reads' HO216.out).2.1); rintro e w37 ⟨v218, rfl, ho0, hb⟩; have n0_ := Aside0.mk (Kd.R_elder' (by (with_reducible repeat (first | apply Kd.R_alloc | apply Kd.R_drewN | apply Kd.R_drew)); exact HO_7.out) (Kd.R_base ho0) hb); have n1_ := Aside0.mk (Kd.R_below (by (with_reducible repeat (first | apply Kd.R_alloc | apply Kd.R_drewN | apply Kd.R_drew)); exact HO216.out) hb); have n2_ := Aside0.mk (Kd.R_lower (Kd.R_new' ho0 (Kd.R_lt (by (with_reducible repeat (first | apply Kd.R_alloc | apply Kd.R_drewN | apply Kd.R_drew)); exact HO_7.out))) (below_size (by repeat (first | (with_reducible first | exact HB.out | apply below_alloc | apply pw_below_drewN | apply below_drew1) | exact HB.out)))); have n3_ := Aside0.mk (below_step (by repeat (first | (with_reducible first | exact HB.out | apply below_alloc | apply pw_below_drewN | apply below_drew1) | exact HB.out)) hb); clear HO_7; clear HO216; clear HB; have HO_7 := n0_; have HO216 := n1_; have HO219 := n2_; have HB := n3_; clear n0_ n1_ n2_ n3_; (try clear hb); (try clear hb2); (try clear hk); (try clear hi); (try clear ho0); obtain ⟨Ao38, co38, eo38⟩ := Kd.R_slice HO219.out; subst eo38) | (go_at_call 11; refine calls_of_args (args' := #[.slice Ao38 t217.length co38, .slice (some ⟨go27, 0, none⟩) y212.length co16]) (by first | (rw [show y212.length = t204.length from (Kd.R_reads' HO_7.out).1.symm] <;> rfl) | rfl) ?_; (with_reducible refine (zoneinforef01_Same.calls kj13 _ _ t217 _ _ y212 t220 _ ?side1 ?side2 ?side3 ?side4 A32.out).mono ?_); (case side1 => repeat (first | exact (Kd.R_reads' HO219.out).2.2 | (with_reducible refine Kd.C_alloc ?_ _) | (with_reducible refine Kd.C_drewN ?_ _) | (with_reducible refine Kd.C_drew ?_))); (case side2 => exact (Kd.R_reads' HO219.out).2.1); (case side3 => repeat (first | exact (Kd.R_reads' HO_7.out).2.2 | (with_reducible refine Kd.C_alloc ?_ _) | (with_reducible refine Kd.C_drewN ?_ _) | (with_reducible refine Kd.C_drew ?_))); (case side4 => rw [show y212.length = t204.length from (Kd.R_reads' HO_7.out).1.symm]; exact (Kd.R_reads' HO_7.out).2.1); rintro e w' ⟨rfl, ⟨nd, rfl⟩⟩))
                        go_ret
                        exact ⟨by first | rfl | (simp [errW_none, errW_some] <;> rfl) | (simp only [← hji24]; first | rfl | (simp [errW_none, errW_some] <;> rfl)) | (simp [*, errW_none, errW_some] <;> rfl), by repeat (first | (with_reducible first | exact HB.out | apply below_alloc | apply pw_below_drewN | apply below_drew1) | exact HB.out)⟩
                      · replace c30 := Bool.eq_false_iff.mpr c30
                        subst c30
                        have H1 : (if (t213.length : Int) = 0 then (some true) else (none)) = some r := by rw [if_neg (show ¬ (false = true) by decide)] at H; exact H
                        clear H
                        have H := H1
                        clear H1
                        by_cases c39 : (t213.length : Int) = 0
                        · rw [if_pos c39] at H
                          have c39b0 : ((t213.length : Int) == 0) = true := beq_iff_eq.mpr c39
                          have c39b1 : ((t213.length : Int) != 0) = false := bne_eq_false_iff_eq.mpr c39
                          clear c39
                          obtain rfl := Option.some.inj H
                          have p27 : 0 ≤ ((ji24) : Int) := of_decide_eq_true (by first | (with_reducible assumption) | assumption)
                          have q27 : ((ji24) : Int) < ((t204.length : Int) : Int) := of_decide_eq_true (by first | (with_reducible assumption) | assumption)
                          obtain ⟨go27, co27, eo27, gb27, gl27, cl27, HG27⟩ := Kd.R_form HO_7.out (by omega)
                          (first | cases eo27 | (injection eo27 with ea_ en_ ec_; (first | subst ea_ | (injection ea_ with ea_; subst ea_)); subst ec_; clear en_))
                          have GB27 := Aside0.mk gb27
                          have GG27 := Aside0.mk HG27
                          clear gb27 gl27 HG27
                          obtain ⟨hx27_0, hf27_0⟩ := Kd.R_celln 0 HO_7.out ((ji24) : Int) p27 q27
                          replace p27 := eq_true p27
                          replace q27 := eq_true q27
                          have HP40 := Kd.R_putg HO_7.out ((ji24) : Int) a2
                          go_wp2_with (first | ((with_reducible refine gate_store (t := 5) (p := 52) rfl ?_); refine store_event (t := 5) (p := 52) (v := ?vo_w41) (w1 := (wc.setCell ⟨go27, ((ji24) : Int).toNat, none⟩ (.int .u8 a2))) ?hg ?ho ?hn ?hr ?_; (case ho => rfl); (case hg => rfl); (case hn => rfl); (case hr => first | (go_simp; done) | (go_simp; rfl)); intro w41 hw; have hg : wc.grownBy w41 (some go27) := (by rw [hw]; exact HP40.2); have hp_ : Kd.R (Kd.int .u8) 5 w41 w.heap.size (fun _ => True) (.slice (some ⟨go27, 0, none⟩) t204.length co16) y212 := (by rw [hw, Ny212.out]; exact HP40.1); clear HP40; have n0_ := Aside0.mk (hp_); have n1_ := Aside0.mk ((by rw [hw]; exact below_set (HB.out) GB27.out : Below w.heap.size w w41)); clear HO_7; clear HB; have HO_7 := n0_; have HB := n1_; clear n0_ n1_; clear hg hw hp_) | ((with_reducible refine gate_callee (f := 8) rfl ?_); refine goesL_ (some 55) rfl rfl Tryd.func8 (by kernel_rfl) rfl #[.slice (some ⟨go27, 0, none⟩) y212.length co16] rfl (by (try simp only [List.map_toArray, List.map_cons, List.map_nil]); first | done | (rw [show y212.length = t204.length from (Kd.R_reads' HO_7.out).1.symm] <;> rfl) | rfl | (simp only [List.length_drop, List.length_take]; rfl)) ?_; (with_reducible refine (indicators_Decode.calls kj13 _ _ y212 t213 false _ ?side1 ?side2 ?side3 A28.out).mono ?_); (case side1 => repeat (first | exact (Kd.R_reads' HO_7.out).2.2 | (with_reducible refine Kd.C_alloc ?_ _) | (with_reducible refine Kd.C_drewN ?_ _) | (with_reducible refine Kd.C_drew ?_))); (case side2 => rw [show y212.length = t204.length from (Kd.R_reads' HO_7.out).1.symm]; exact (Kd.R_reads' HO_7.out).2.1); (case side3 => repeat (first | exact (Kd.C_below HRg.out HB.out) | (with_reducible refine Kd.C_alloc ?_ _) | (with_reducible refine Kd.C_drewN ?_ _) | (with_reducible refine Kd.C_drew ?_))); rintro e w42 ⟨v215, rfl, ho0, hb⟩; refine ⟨_, rfl, ?_⟩; have n0_ := Aside0.mk (Kd.R_below (by (with_reducible repeat (first | apply Kd.R_alloc | apply Kd.R_drewN | apply Kd.R_drew)); exact HO_7.out) hb); have n1_ := Aside0.mk (Kd.R_lower ho0 (below_size (by repeat (first | (with_reducible first | exact HB.out | apply below_alloc | apply pw_below_drewN | apply below_drew1) | exact HB.out)))); have n2_ := Aside0.mk (below_step (by repeat (first | (with_reducible first | exact HB.out | apply below_alloc | apply pw_below_drewN | apply below_drew1) | exact HB.out)) hb); clear HO_7; clear HB; have HO_7 := n0_; have HO216 := n1_; have HB := n2_; clear n0_ n1_ n2_; (try clear hb); (try clear hb2); (try clear hk); (try clear hi); (try clear ho0); obtain ⟨Ao43, co43, eo43⟩ := Kd.R_slice HO216.out; subst eo43))
                          go_ret
                          exact ⟨by first | rfl | (simp [errW_none, errW_some] <;> rfl) | (simp only [← hji24]; first | rfl | (simp [errW_none, errW_some] <;> rfl)) | (simp [*, errW_none, errW_some] <;> rfl), by repeat (first | (with_reducible first | exact HB.out | apply below_alloc | apply pw_below_drewN | apply below_drew1) | exact HB.out)⟩
                        · rw [if_neg c39] at H
                          exact absurd H (by simp)
                    · rw [if_neg c29] at H
                      exact absurd H (by simp)
                  · rw [if_neg c26] at H
                    exact absurd H (by simp)
                · rw [if_neg c25] at H
                  exact absurd H (by simp)

/-- THE ONE PURE STATEMENT of zoneinfolaw18_IndicatorsRoundTrip: yours. -/
def zoneinfolaw18_IndicatorsRoundTrip.Pure : Prop := ∀ (l0 : List Bool) (a1 : Int) (a2 : Int), l0.length ≤ maxLen → l0.length * 1 ≤ 140737488351232 → (Lit.int .u16 a1).wf = true → (Lit.int .u8 a2).wf = true → ∃ k, zoneinfolaw18_IndicatorsRoundTrip.f k l0 a1 a2 = some true
theorem zoneinfolaw18_IndicatorsRoundTrip.walk (P : zoneinfolaw18_IndicatorsRoundTrip.Pure) (a0 : Option Addr) (len0 cap0 : Nat) (z0 : List Bool) (a1 : Int) (a2 : Int) (w : World) (hgl : GL w) (w0 : (a0 = none ∧ len0 = 0 ∧ cap0 = 0 ∧ z0 = []) ∨ ∃ x, a0 = some x ∧ len0 ≤ cap0 ∧ cap0 ≤ maxLen ∧ z0.length = cap0 ∧ ∀ i, i < z0.length → w.cell? (x.add i) = some (.bool (z0.getD i false))) (y0 : len0 * 1 ≤ 140737488351232) (w1 : (Lit.int .u16 a1).wf = true) (w2 : (Lit.int .u8 a2).wf = true) :
    Calls Tryd.prog 4 #[.slice a0 len0 cap0, .int .u16 a1, .int .u8 a2] w fun e w' => e = .returned (.bool true) ∧ Below w.heap.size w w' := by
  obtain ⟨l0, rfl, hr0, hm0, hc0⟩ := ofBoolRow w0
  obtain ⟨k, h⟩ := P l0 a1 a2 hm0 y0 w1 w2
  refine (zoneinfolaw18_IndicatorsRoundTrip.calls k _ _ l0 a1 a2 true w (Kd.C_of_reads (d := false) (h1 := fun _ => rfl) hr0) hc0 hgl h).mono ?_
  rintro e w' ⟨rfl, hd⟩
  exact ⟨rfl, hd⟩

end Go.Proofs.YtbiglbdanppjpaaDoor.G
