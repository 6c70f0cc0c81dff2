/- Written by a program of this session for this seat: contracts of the functions that its laws reach, or the row of a law over its plain part. -/
import Derived.Test.YtiaobffdggeofaaDoorGx0
import Derived.Test.YtiaobffdggeofaaDoorGx2
import Derived.Test.YtiaobffdggeofaaDoorGx3
import Derived.Test.YtiaobffdggeofaaDoorGx4
import Derived.Test.YtiaobffdggeofaaDoorGx5
import Derived.Test.YtiaobffdggeofaaDoorGx6
import Derived.Test.YtiaobffdggeofaaDoorGx8
namespace Go.Proofs.YtiaobffdggeofaaDoor.G
open Go.RowKit Go.Proofs.YtiaobffdggeofaaDoorW.PrintWords Go.Proofs.YtiaobffdggeofaaDoorW.PrintLast Go.Proofs.YtiaobffdggeofaaDoorW.PrintMore
attribute [local go_sem] max2_int min2_int max_two min_two max_three min_three max_four min_four   -- for this text's walks alone
set_option linter.unusedVariables false
set_option linter.unusedSimpArgs false

/-! ### zoneinfolaw17_LeapsRoundTrip: function 4 -/
mutual
def zoneinfolaw17_LeapsRoundTrip.j0 : Nat → List (S38) → List Int → Bool → Bool → Option (Bool)
  | 0, _, _, _, _ => none
  | k + 1, x0, x1, x2, x23 => if x23 = true then ((zoneinfolaw17_awake.f k).bind fun t278 => (some t278)) else ((zoneinforef14_Size.f x2).bind fun t279 => (zoneinfolaw17_LeapsRoundTrip.l0 k x0 x1 t279 true 0))
def zoneinfolaw17_LeapsRoundTrip.l0 : Nat → List (S38) → List Int → Int → Bool → Int → Option (Bool)
  | 0, _, _, _, _, _ => none
  | k + 1, x0, x1, x7, x8, x9 => if x9 < (x0.length : Int) then (if x8 = true then (if 0 ≤ x9 then ((zoneinforef01_Fits.f k ((rd_T38 x0 x9).f0) x7).bind fun t281 => (zoneinfolaw17_LeapsRoundTrip.l0 k x0 x1 x7 t281 (wrap64 (x9 + 1)))) else (none)) else (zoneinfolaw17_LeapsRoundTrip.l0 k x0 x1 x7 false (wrap64 (x9 + 1)))) else ((leaps_Encode.f k x0 x7).bind fun t282 => (if (t282.length : Int) = (wrap64 ((wrap64 (x7 + 4)) * (x0.length : Int))) then ((leaps_Decode.f k t282 x7).bind fun t285 => ((zoneinforef17_Same.f k t285 x0).bind fun t288 => (zoneinfolaw17_LeapsRoundTrip.j2 k x1 x7 (t288 != x8)))) else (zoneinfolaw17_LeapsRoundTrip.j2 k x1 x7 true)))
def zoneinfolaw17_LeapsRoundTrip.j2 : Nat → List Int → Int → Bool → Option (Bool)
  | 0, _, _, _ => none
  | k + 1, x1, x7, x62 => if x62 = true then (none) else (if (wrap64 (x7 + 4)) = 0 then (none) else (if 0 ≤ (wrap64 ((wrap64 ((x1.length : Int) / (wrap64 (x7 + 4)))) * (wrap64 (x7 + 4)))) then (if (wrap64 ((wrap64 ((x1.length : Int) / (wrap64 (x7 + 4)))) * (wrap64 (x7 + 4)))) ≤ (x1.length : Int) then ((leaps_Decode.f k (x1.take ((wrap64 ((wrap64 ((x1.length : Int) / (wrap64 (x7 + 4)))) * (wrap64 (x7 + 4)))) : Int).toNat) x7).bind fun t290 => ((leaps_Encode.f k t290 x7).bind fun t293 => ((zoneinforef01_Same.f k t293 (x1.take ((wrap64 ((wrap64 ((x1.length : Int) / (wrap64 (x7 + 4)))) * (wrap64 (x7 + 4)))) : Int).toNat)).bind fun t296 => (some t296)))) else (none)) else (none)))
end
def zoneinfolaw17_LeapsRoundTrip.f (k : Nat) (l0 : List (S38)) (l1 : List Int) (a2 : Bool) : Option (Bool) := (zoneinfolaw17_awake.f k).bind fun t277 => (if t277 = true then (if (l1.length : Int) > 1000 then (zoneinfolaw17_LeapsRoundTrip.j0 k l0 l1 a2 true) else (zoneinfolaw17_LeapsRoundTrip.j0 k l0 l1 a2 (decide ((l0.length : Int) > 100)))) else (zoneinfolaw17_LeapsRoundTrip.j0 k l0 l1 a2 true))
theorem zoneinfolaw17_LeapsRoundTrip.mono_l : ∀ k, (∀ y0 y1 y2 y3, LeO (zoneinfolaw17_LeapsRoundTrip.j0 k y0 y1 y2 y3) (zoneinfolaw17_LeapsRoundTrip.j0 (k + 1) y0 y1 y2 y3)) ∧ (∀ y0 y1 y2 y3 y4, LeO (zoneinfolaw17_LeapsRoundTrip.l0 k y0 y1 y2 y3 y4) (zoneinfolaw17_LeapsRoundTrip.l0 (k + 1) y0 y1 y2 y3 y4)) ∧ (∀ y0 y1 y2, LeO (zoneinfolaw17_LeapsRoundTrip.j2 k y0 y1 y2) (zoneinfolaw17_LeapsRoundTrip.j2 (k + 1) y0 y1 y2))
  | 0 => ⟨fun _ _ _ _ r h => by simp [zoneinfolaw17_LeapsRoundTrip.j0] at h, fun _ _ _ _ _ r h => by simp [zoneinfolaw17_LeapsRoundTrip.l0] at h, fun _ _ _ r h => by simp [zoneinfolaw17_LeapsRoundTrip.j2] at h⟩
  | k + 1 => by
    obtain ⟨ih0, ih1, ih2⟩ := zoneinfolaw17_LeapsRoundTrip.mono_l k
    refine ⟨?_, ?_, ?_⟩
    · intro y0 y1 y2 y3
      unfold zoneinfolaw17_LeapsRoundTrip.j0
      repeat' first
      | (with_reducible exact ih0 _ _ _ _)
      | (with_reducible exact ih1 _ _ _ _ _)
      | (with_reducible exact ih2 _ _ _)
      | (with_reducible exact leaps_Decode.mono _ _ _)
      | (with_reducible exact leaps_Encode.mono _ _ _)
      | (with_reducible exact zoneinfolaw17_awake.mono _)
      | (with_reducible exact zoneinforef01_Fits.mono _ _ _)
      | (with_reducible exact zoneinforef01_Same.mono _ _ _)
      | (with_reducible exact zoneinforef17_Same.mono _ _ _)
      | (with_reducible exact LeO.refl _)
      | (with_reducible exact LeO.none _)
      | (with_reducible refine LeO.ite ?_ ?_)
      | (with_reducible refine LeO.bind ?_ (fun _ => ?_))
      | exact ih0 _ _ _ _
      | exact ih1 _ _ _ _ _
      | exact ih2 _ _ _
      | exact leaps_Decode.mono _ _ _
      | exact leaps_Encode.mono _ _ _
      | exact zoneinfolaw17_awake.mono _
      | exact zoneinforef01_Fits.mono _ _ _
      | exact zoneinforef01_Same.mono _ _ _
      | exact zoneinforef17_Same.mono _ _ _
      | exact LeO.none _
      | refine LeO.ite ?_ ?_
      | refine LeO.bind ?_ (fun _ => ?_)
    · intro y0 y1 y2 y3 y4
      unfold zoneinfolaw17_LeapsRoundTrip.l0
      repeat' first
      | (with_reducible exact ih0 _ _ _ _)
      | (with_reducible exact ih1 _ _ _ _ _)
      | (with_reducible exact ih2 _ _ _)
      | (with_reducible exact leaps_Decode.mono _ _ _)
      | (with_reducible exact leaps_Encode.mono _ _ _)
      | (with_reducible exact zoneinfolaw17_awake.mono _)
      | (with_reducible exact zoneinforef01_Fits.mono _ _ _)
      | (with_reducible exact zoneinforef01_Same.mono _ _ _)
      | (with_reducible exact zoneinforef17_Same.mono _ _ _)
      | (with_reducible exact LeO.refl _)
      | (with_reducible exact LeO.none _)
      | (with_reducible refine LeO.ite ?_ ?_)
      | (with_reducible refine LeO.bind ?_ (fun _ => ?_))
      | exact ih0 _ _ _ _
      | exact ih1 _ _ _ _ _
      | exact ih2 _ _ _
      | exact leaps_Decode.mono _ _ _
      | exact leaps_Encode.mono _ _ _
      | exact zoneinfolaw17_awake.mono _
      | exact zoneinforef01_Fits.mono _ _ _
      | exact zoneinforef01_Same.mono _ _ _
      | exact zoneinforef17_Same.mono _ _ _
      | exact LeO.none _
      | refine LeO.ite ?_ ?_
      | refine LeO.bind ?_ (fun _ => ?_)
    · intro y0 y1 y2
      unfold zoneinfolaw17_LeapsRoundTrip.j2
      repeat' first
      | (with_reducible exact ih0 _ _ _ _)
      | (with_reducible exact ih1 _ _ _ _ _)
      | (with_reducible exact ih2 _ _ _)
      | (with_reducible exact leaps_Decode.mono _ _ _)
      | (with_reducible exact leaps_Encode.mono _ _ _)
      | (with_reducible exact zoneinfolaw17_awake.mono _)
      | (with_reducible exact zoneinforef01_Fits.mono _ _ _)
      | (with_reducible exact zoneinforef01_Same.mono _ _ _)
      | (with_reducible exact zoneinforef17_Same.mono _ _ _)
      | (with_reducible exact LeO.refl _)
      | (with_reducible exact LeO.none _)
      | (with_reducible refine LeO.ite ?_ ?_)
      | (with_reducible refine LeO.bind ?_ (fun _ => ?_))
      | exact ih0 _ _ _ _
      | exact ih1 _ _ _ _ _
      | exact ih2 _ _ _
      | exact leaps_Decode.mono _ _ _
      | exact leaps_Encode.mono _ _ _
      | exact zoneinfolaw17_awake.mono _
      | exact zoneinforef01_Fits.mono _ _ _
      | exact zoneinforef01_Same.mono _ _ _
      | exact zoneinforef17_Same.mono _ _ _
      | exact LeO.none _
      | refine LeO.ite ?_ ?_
      | refine LeO.bind ?_ (fun _ => ?_)
theorem zoneinfolaw17_LeapsRoundTrip.mono : ∀ a0 a1 a2 k, LeO (zoneinfolaw17_LeapsRoundTrip.f k a0 a1 a2) (zoneinfolaw17_LeapsRoundTrip.f (k + 1) a0 a1 a2) := by
  intro a0 a1 a2 k
  obtain ⟨ih0, ih1, ih2⟩ := zoneinfolaw17_LeapsRoundTrip.mono_l k
  unfold zoneinfolaw17_LeapsRoundTrip.f
  repeat' first
      | (with_reducible exact ih0 _ _ _ _)
      | (with_reducible exact ih1 _ _ _ _ _)
      | (with_reducible exact ih2 _ _ _)
      | (with_reducible exact leaps_Decode.mono _ _ _)
      | (with_reducible exact leaps_Encode.mono _ _ _)
      | (with_reducible exact zoneinfolaw17_awake.mono _)
      | (with_reducible exact zoneinforef01_Fits.mono _ _ _)
      | (with_reducible exact zoneinforef01_Same.mono _ _ _)
      | (with_reducible exact zoneinforef17_Same.mono _ _ _)
      | (with_reducible exact LeO.refl _)
      | (with_reducible exact LeO.none _)
      | (with_reducible refine LeO.ite ?_ ?_)
      | (with_reducible refine LeO.bind ?_ (fun _ => ?_))
      | exact ih0 _ _ _ _
      | exact ih1 _ _ _ _ _
      | exact ih2 _ _ _
      | exact leaps_Decode.mono _ _ _
      | exact leaps_Encode.mono _ _ _
      | exact zoneinfolaw17_awake.mono _
      | exact zoneinforef01_Fits.mono _ _ _
      | exact zoneinforef01_Same.mono _ _ _
      | exact zoneinforef17_Same.mono _ _ _
      | exact LeO.none _
      | refine LeO.ite ?_ ?_
      | refine LeO.bind ?_ (fun _ => ?_)
set_option maxHeartbeats 8000000 in
set_option maxRecDepth 100000 in
theorem zoneinfolaw17_LeapsRoundTrip.calls (k : Nat) (A0 : Option Addr) (c0 : Nat) (l0 : List (S38)) (A1 : Option Addr) (c1 : Nat) (l1 : List Int) (a2 : Bool) (r : Bool) (w : World) (hr0 : Kd.C k38 w A0 l0.length l0) (hc0 : l0.length ≤ c0) (hr1 : Kd.C (Kd.int .u8) w A1 l1.length l1) (hc1 : l1.length ≤ c1) (hrg : GL w) (h : zoneinfolaw17_LeapsRoundTrip.f k l0 l1 a2 = some r) :
    Calls Tryd.prog 4 #[.slice A0 l0.length c0, .slice A1 l1.length c1, .bool a2] w fun e w' => e = .returned (.bool r) ∧ Below w.heap.size w w' := by
  have HRg := Aside0.mk hrg
  clear hrg
  have HR0 := Aside0.mk hr0
  have HC0 := Aside0.mk hc0
  clear hr0 hc0
  have HR1 := Aside0.mk hr1
  have HC1 := Aside0.mk hc1
  clear hr1 hc1
  have HB := Aside0.mk (Below.refl w.heap.size w)
  have H : ((zoneinfolaw17_awake.f k).bind fun t277 => (if t277 = true then (if (l1.length : Int) > 1000 then (zoneinfolaw17_LeapsRoundTrip.j0 k l0 l1 a2 true) else (zoneinfolaw17_LeapsRoundTrip.j0 k l0 l1 a2 (decide ((l0.length : Int) > 100)))) else (zoneinfolaw17_LeapsRoundTrip.j0 k l0 l1 a2 true))) = some r := h
  clear h
  have HC4 := Aside0.mk H
  clear H
  go_enter Tryd.func4, Tryd.ntmps4
  (try simp only [List.append_eq, List.cons_append, List.nil_append])
  go_upto_region 1 with (fail)
  go_cut [23] (fun v23 wc => ∃ (kq : Nat) (x23_3 : Bool), v23 = .bool x23_3 ∧ Aside0 (zoneinfolaw17_LeapsRoundTrip.j0 kq l0 l1 a2 x23_3 = some r) ∧ Aside0 (kq ≤ k) ∧ Aside0 (Below w.heap.size w wc))
  case first =>
    have H := HC4.out
    clear HC4
    replace H := Option.bind_eq_some_iff.mp H
    obtain ⟨t277, A50, H⟩ := H
    replace H : (if t277 = true then (if (l1.length : Int) > 1000 then (zoneinfolaw17_LeapsRoundTrip.j0 k l0 l1 a2 true) else (zoneinfolaw17_LeapsRoundTrip.j0 k l0 l1 a2 (decide ((l0.length : Int) > 100)))) else (zoneinfolaw17_LeapsRoundTrip.j0 k l0 l1 a2 true)) = some r := H
    have A5 := Aside0.mk A50
    clear A50
    by_cases c6 : t277 = true
    · subst c6
      have H1 : (if (l1.length : Int) > 1000 then (zoneinfolaw17_LeapsRoundTrip.j0 k l0 l1 a2 true) else (zoneinfolaw17_LeapsRoundTrip.j0 k l0 l1 a2 (decide ((l0.length : Int) > 100)))) = some r := by rw [if_pos rfl] at H; exact H
      clear H
      have H := H1
      clear H1
      by_cases c7 : (l1.length : Int) > 1000
      · rw [if_pos c7] at H
        have c7b0 : decide (1000 < (l1.length : Int)) = true := decide_eq_true c7
        have c7b1 : decide (1000 < l1.length) = true := decide_eq_true (by omega)
        clear c7
        (first | rw [c7b0] | (simp only [i64_w, i32_w]; rw [c7b0]) | skip)
        have H' := Aside0.mk H
        clear H
        go_wp2_with (first | (go_at_call 7; (with_reducible refine (zoneinfolaw17_awake.calls k  true _ ?side1 A5.out).mono ?_); (case side1 => repeat (first | exact (Kd.C_below HRg.out HB.out) | (with_reducible refine Kd.C_alloc ?_ _) | (with_reducible refine Kd.C_drewN ?_ _) | (with_reducible refine Kd.C_drew ?_))); rintro e w8 ⟨rfl, hb⟩; have n0_ := Aside0.mk (below_step (by repeat (first | (with_reducible first | exact HB.out | apply below_alloc | apply pw_below_drewN | apply below_drew1) | exact HB.out)) hb); clear HB; have HB := n0_; clear n0_; (try clear hb); (try clear hb2); (try clear hk); (try clear hi)))
        go_meet
        case rel => exact ⟨_, (true), (by first | rfl | (simp; done) | (simp [*]; done)), H', ⟨by first | omega | exact Nat.le_refl _⟩, ⟨by repeat (first | (with_reducible first | exact HB.out | apply below_alloc | apply pw_below_drewN | apply below_drew1) | exact HB.out)⟩⟩
      · rw [if_neg c7] at H
        have c7b0 : decide (1000 < (l1.length : Int)) = false := decide_eq_false c7
        have c7b1 : decide (1000 < l1.length) = false := decide_eq_false (by omega)
        clear c7
        (first | rw [c7b0] | (simp only [i64_w, i32_w]; rw [c7b0]) | skip)
        have H' := Aside0.mk H
        clear H
        go_wp2_with (first | (go_at_call 7; (with_reducible refine (zoneinfolaw17_awake.calls k  true _ ?side1 A5.out).mono ?_); (case side1 => repeat (first | exact (Kd.C_below HRg.out HB.out) | (with_reducible refine Kd.C_alloc ?_ _) | (with_reducible refine Kd.C_drewN ?_ _) | (with_reducible refine Kd.C_drew ?_))); rintro e w9 ⟨rfl, hb⟩; have n0_ := Aside0.mk (below_step (by repeat (first | (with_reducible first | exact HB.out | apply below_alloc | apply pw_below_drewN | apply below_drew1) | exact HB.out)) hb); clear HB; have HB := n0_; clear n0_; (try clear hb); (try clear hb2); (try clear hk); (try clear hi)))
        go_meet
        case rel => exact ⟨_, (decide ((l0.length : Int) > 100)), (by first | rfl | (simp; done) | (simp [*]; done)), H', ⟨by first | omega | exact Nat.le_refl _⟩, ⟨by repeat (first | (with_reducible first | exact HB.out | apply below_alloc | apply pw_below_drewN | apply below_drew1) | exact HB.out)⟩⟩
    · replace c6 := Bool.eq_false_iff.mpr c6
      subst c6
      have H1 : (zoneinfolaw17_LeapsRoundTrip.j0 k l0 l1 a2 true) = some r := by rw [if_neg (show ¬ (false = true) by decide)] at H; exact H
      clear H
      have H := H1
      clear H1
      have H' := Aside0.mk H
      clear H
      go_wp2_with (first | (go_at_call 7; (with_reducible refine (zoneinfolaw17_awake.calls k  false _ ?side1 A5.out).mono ?_); (case side1 => repeat (first | exact (Kd.C_below HRg.out HB.out) | (with_reducible refine Kd.C_alloc ?_ _) | (with_reducible refine Kd.C_drewN ?_ _) | (with_reducible refine Kd.C_drew ?_))); rintro e w10 ⟨rfl, hb⟩; have n0_ := Aside0.mk (below_step (by repeat (first | (with_reducible first | exact HB.out | apply below_alloc | apply pw_below_drewN | apply below_drew1) | exact HB.out)) hb); clear HB; have HB := n0_; clear n0_; (try clear hb); (try clear hb2); (try clear hk); (try clear hi)))
      go_meet
      case rel => exact ⟨_, (true), (by first | rfl | (simp; done) | (simp [*]; done)), H', ⟨by first | omega | exact Nat.le_refl _⟩, ⟨by repeat (first | (with_reducible first | exact HB.out | apply below_alloc | apply pw_below_drewN | apply below_drew1) | exact HB.out)⟩⟩
  case rest =>
    clear HC4
    try clear c1
    try clear p2
    try clear c4
    try clear c6
    try clear c7
    try clear c7b0
    try clear c7b1
    obtain ⟨kq, x23_3, rfl, HA, HJ3, HB⟩ := hcut
    cases kq with
    | zero => exact absurd HA.out (by simp [zoneinfolaw17_LeapsRoundTrip.j0])
    | succ kj3 =>
      have H := HA.out
      clear HA
      simp only [zoneinfolaw17_LeapsRoundTrip.j0] at H
      by_cases c11 : x23_3 = true
      · subst c11
        have H1 : ((zoneinfolaw17_awake.f kj3).bind fun t278 => (some t278)) = some r := by rw [if_pos rfl] at H; exact H
        clear H
        have H := H1
        clear H1
        replace H := Option.bind_eq_some_iff.mp H
        obtain ⟨t278, A120, H⟩ := H
        replace H : (some t278) = some r := H
        have A12 := Aside0.mk A120
        clear A120
        obtain rfl := Option.some.inj H
        go_wp2_with (first | ((with_reducible refine gate_callee (f := 7) rfl ?_); refine goesL_ (some 24) rfl rfl Tryd.func7 (by kernel_rfl) rfl #[] rfl (by (try simp only [List.map_toArray, List.map_cons, List.map_nil]); first | done | rfl | (simp only [List.length_drop, List.length_take]; rfl)) ?_; (with_reducible refine (zoneinfolaw17_awake.calls kj3  t278 _ ?side1 A12.out).mono ?_); (case side1 => repeat (first | exact (Kd.C_below HRg.out HB.out) | (with_reducible refine Kd.C_alloc ?_ _) | (with_reducible refine Kd.C_drewN ?_ _) | (with_reducible refine Kd.C_drew ?_))); rintro e w13 ⟨rfl, hb⟩; refine ⟨_, rfl, ?_⟩; have n0_ := Aside0.mk (below_step (by repeat (first | (with_reducible first | exact HB.out | apply below_alloc | apply pw_below_drewN | apply below_drew1) | exact HB.out)) hb); clear HB; have HB := n0_; clear n0_; (try clear hb); (try clear hb2); (try clear hk); (try clear hi)))
        go_ret
        exact ⟨by first | rfl | (simp [errW_none, errW_some] <;> rfl) | (simp [*, errW_none, errW_some] <;> rfl), by repeat (first | (with_reducible first | exact HB.out | apply below_alloc | apply pw_below_drewN | apply below_drew1) | exact HB.out)⟩
      · replace c11 := Bool.eq_false_iff.mpr c11
        subst c11
        have H1 : ((zoneinforef14_Size.f a2).bind fun t279 => (zoneinfolaw17_LeapsRoundTrip.l0 kj3 l0 l1 t279 true 0)) = some r := by rw [if_neg (show ¬ (false = true) by decide)] at H; exact H
        clear H
        have H := H1
        clear H1
        replace H := Option.bind_eq_some_iff.mp H
        obtain ⟨t279, A140, H⟩ := H
        replace H : (zoneinfolaw17_LeapsRoundTrip.l0 kj3 l0 l1 t279 true 0) = some r := H
        have A14 := Aside0.mk A140
        clear A140
        have H' := Aside0.mk H
        clear H
        go_wp2_with (first | ((with_reducible refine gate_callee (f := 8) rfl ?_); refine goesL_ (some 26) rfl rfl Tryd.func8 (by kernel_rfl) rfl #[.bool a2] rfl (by (try simp only [List.map_toArray, List.map_cons, List.map_nil]); first | done | rfl | (simp only [List.length_drop, List.length_take]; rfl)) ?_; (with_reducible refine (zoneinforef14_Size.calls a2 t279 _ A14.out).mono ?_); rintro e w' ⟨rfl, ⟨nd, rfl⟩⟩; refine ⟨_, rfl, ?_⟩))
        go_loopg [8, 9] kj3 (fun kq v8 v9 w' => ∃ (x8_2 : Bool) (x9_2 : Int), v8 = .bool x8_2 ∧ v9 = .int .i64 x9_2 ∧ Aside0 (zoneinfolaw17_LeapsRoundTrip.l0 kq l0 l1 t279 x8_2 x9_2 = some r) ∧ Aside0 (kq ≤ kj3) ∧ Aside0 (Below w.heap.size w w'))
        case atStart => exact ⟨(true), (0), (by first | rfl | (simp; done) | (simp [*]; done)), (by first | rfl | (simp; done) | (simp [*]; done)), H', ⟨Nat.le_refl _⟩, ⟨by repeat (first | (with_reducible first | exact HB.out | apply below_alloc | apply pw_below_drewN | apply below_drew1) | exact HB.out)⟩⟩
        case round =>
          clear H'
          try clear c1
          try clear p2
          try clear c4
          try clear c6
          try clear c7
          try clear c7b0
          try clear c7b1
          try clear c8
          try clear c11
          try clear p2
          obtain ⟨x8_2, x9_2, rfl, rfl, HA, HK2, HB⟩ := hrel
          cases gk with
          | zero => exact absurd HA.out (by simp [zoneinfolaw17_LeapsRoundTrip.l0])
          | succ k2 =>
            have H := HA.out
            clear HA
            simp only [zoneinfolaw17_LeapsRoundTrip.l0] at H
            by_cases c15 : x9_2 < (l0.length : Int)
            · rw [if_pos c15] at H
              have c15b0 : decide (x9_2 < (l0.length : Int)) = true := decide_eq_true c15
              clear c15
              by_cases c16 : x8_2 = true
              · subst c16
                have H1 : (if 0 ≤ x9_2 then ((zoneinforef01_Fits.f k2 ((rd_T38 l0 x9_2).f0) t279).bind fun t281 => (zoneinfolaw17_LeapsRoundTrip.l0 k2 l0 l1 t279 t281 (wrap64 (x9_2 + 1)))) else (none)) = some r := by rw [if_pos rfl] at H; exact H
                clear H
                have H := H1
                clear H1
                by_cases c17 : 0 ≤ x9_2
                · rw [if_pos c17] at H
                  have c17b0 : decide (0 ≤ x9_2) = true := decide_eq_true c17
                  clear c17
                  replace H := Option.bind_eq_some_iff.mp H
                  obtain ⟨t281, A180, H⟩ := H
                  replace H : (zoneinfolaw17_LeapsRoundTrip.l0 k2 l0 l1 t279 t281 (wrap64 (x9_2 + 1))) = some r := H
                  have A18 := Aside0.mk A180
                  clear A180
                  have H' := Aside0.mk H
                  clear H
                  have p280 : 0 ≤ (x9_2 : Int) := of_decide_eq_true (by first | (with_reducible assumption) | assumption)
                  have q280 : x9_2 < (l0.length : Int) := of_decide_eq_true (by first | (with_reducible assumption) | assumption)
                  obtain ⟨ad280, e280, hx280_0, hx280_1⟩ := at_T38 HR0.out x9_2 p280 q280
                  cases e280
                  replace hx280_0 := (HB.out.cell (World.block_lt_of_cell? w _ hx280_0)).trans hx280_0
                  replace hx280_1 := (HB.out.cell (World.block_lt_of_cell? w _ hx280_1)).trans hx280_1
                  replace p280 := eq_true p280
                  replace q280 := eq_true q280
                  go_wp2_with (first | (go_at_call 23; (with_reducible refine (zoneinforef01_Fits.calls k2 ((rd_T38 l0 x9_2).f0) t279 t281 _ A18.out).mono ?_); rintro e w' ⟨rfl, ⟨nd, rfl⟩⟩))
                  go_roundg k2
                  case measure => have := HJ3.out; have := HK2.out; omega
                  case rel => exact ⟨(t281), (wrap64 (x9_2 + 1)), (by first | rfl | (simp; done) | (simp [*]; done)), (by first | rfl | (simp; done) | (simp [*]; done)), H', ⟨by have := HJ3.out; have := HK2.out; omega⟩, ⟨by repeat (first | (with_reducible first | exact HB.out | apply below_alloc | apply pw_below_drewN | apply below_drew1) | exact HB.out)⟩⟩
                · rw [if_neg c17] at H
                  exact absurd H (by simp)
              · replace c16 := Bool.eq_false_iff.mpr c16
                subst c16
                have H1 : (zoneinfolaw17_LeapsRoundTrip.l0 k2 l0 l1 t279 false (wrap64 (x9_2 + 1))) = some r := by rw [if_neg (show ¬ (false = true) by decide)] at H; exact H
                clear H
                have H := H1
                clear H1
                have H' := Aside0.mk H
                clear H
                go_wp2
                go_roundg k2
                case measure => have := HJ3.out; have := HK2.out; omega
                case rel => exact ⟨(false), (wrap64 (x9_2 + 1)), (by first | rfl | (simp; done) | (simp [*]; done)), (by first | rfl | (simp; done) | (simp [*]; done)), H', ⟨by have := HJ3.out; have := HK2.out; omega⟩, ⟨by repeat (first | (with_reducible first | exact HB.out | apply below_alloc | apply pw_below_drewN | apply below_drew1) | exact HB.out)⟩⟩
            · rw [if_neg c15] at H
              have c15b0 : decide (x9_2 < (l0.length : Int)) = false := decide_eq_false c15
              clear c15
              replace H := Option.bind_eq_some_iff.mp H
              obtain ⟨t282, A190, H⟩ := H
              replace H : (if (t282.length : Int) = (wrap64 ((wrap64 (t279 + 4)) * (l0.length : Int))) then ((leaps_Decode.f k2 t282 t279).bind fun t285 => ((zoneinforef17_Same.f k2 t285 l0).bind fun t288 => (zoneinfolaw17_LeapsRoundTrip.j2 k2 l1 t279 (t288 != x8_2)))) else (zoneinfolaw17_LeapsRoundTrip.j2 k2 l1 t279 true)) = some r := H
              have A19 := Aside0.mk A190
              clear A190
              have HC20 := Aside0.mk H
              clear H
              go_upto_region 10 with (first | ((with_reducible refine gate_callee (f := 13) rfl ?_); refine goesL_ (some 45) rfl rfl Tryd.func13 (by kernel_rfl) rfl #[.slice A0 l0.length c0, .int .i64 t279] rfl (by (try simp only [List.map_toArray, List.map_cons, List.map_nil]); first | done | rfl | (simp only [List.length_drop, List.length_take]; rfl)) ?_; (with_reducible refine (leaps_Encode.calls k2 _ _ l0 t279 t282 _ ?side1 ?side2 A19.out).mono ?_); (case side1 => repeat (first | exact (Kd.C_below HR0.out HB.out) | (with_reducible refine Kd.C_alloc ?_ _) | (with_reducible refine Kd.C_drewN ?_ _) | (with_reducible refine Kd.C_drew ?_))); (case side2 => exact HC0.out); rintro e w21 ⟨v283, rfl, ho0, hb⟩; refine ⟨_, rfl, ?_⟩; have n0_ := Aside0.mk (Kd.R_lower ho0 (below_size (by repeat (first | (with_reducible first | exact HB.out | apply below_alloc | apply pw_below_drewN | apply below_drew1) | exact HB.out)))); have n1_ := Aside0.mk (below_step (by repeat (first | (with_reducible first | exact HB.out | apply below_alloc | apply pw_below_drewN | apply below_drew1) | exact HB.out)) hb); clear HB; have HO284 := n0_; have HB := n1_; clear n0_ n1_; (try clear hb); (try clear hb2); (try clear hk); (try clear hi); (try clear ho0)))
              (try simp only [Act.put, List.setIfInBounds_toArray, List.set_cons_zero, List.set_cons_succ])
              go_cut [62] (fun v62 wc => ∃ (kq : Nat) (x62_19 : Bool), v62 = .bool x62_19 ∧ Aside0 (zoneinfolaw17_LeapsRoundTrip.j2 kq l1 t279 x62_19 = some r) ∧ Aside0 (kq ≤ k2) ∧ Aside0 (Below w.heap.size w wc))
              case first =>
                have H := HC20.out
                clear HC20
                by_cases c22 : (t282.length : Int) = (wrap64 ((wrap64 (t279 + 4)) * (l0.length : Int)))
                · rw [if_pos c22] at H
                  have c22b0 : ((t282.length : Int) == (wrap64 ((wrap64 (t279 + 4)) * (l0.length : Int)))) = true := beq_iff_eq.mpr c22
                  have c22b1 : ((t282.length : Int) != (wrap64 ((wrap64 (t279 + 4)) * (l0.length : Int)))) = false := bne_eq_false_iff_eq.mpr c22
                  clear c22
                  (first | rw [c22b0] | (simp only [i64_w, i32_w]; rw [c22b0]) | skip)
                  replace H := Option.bind_eq_some_iff.mp H
                  obtain ⟨t285, A230, H⟩ := H
                  replace H : ((zoneinforef17_Same.f k2 t285 l0).bind fun t288 => (zoneinfolaw17_LeapsRoundTrip.j2 k2 l1 t279 (t288 != x8_2))) = some r := H
                  have A23 := Aside0.mk A230
                  clear A230
                  replace H := Option.bind_eq_some_iff.mp H
                  obtain ⟨t288, A240, H⟩ := H
                  replace H : (zoneinfolaw17_LeapsRoundTrip.j2 k2 l1 t279 (t288 != x8_2)) = some r := H
                  have A24 := Aside0.mk A240
                  clear A240
                  have H' := Aside0.mk H
                  clear H
                  obtain ⟨Ao25, co25, eo25⟩ := Kd.R_slice HO284.out
                  subst eo25
                  go_wp2_with (first | (go_at_call 10; (with_reducible refine (leaps_Decode.calls k2 _ _ t282 t279 t285 _ ?side1 ?side2 A23.out).mono ?_); (case side1 => repeat (first | exact (Kd.R_reads' HO284.out).2.2 | (with_reducible refine Kd.C_alloc ?_ _) | (with_reducible refine Kd.C_drewN ?_ _) | (with_reducible refine Kd.C_drew ?_))); (case side2 => exact (Kd.R_reads' HO284.out).2.1); rintro e w26 ⟨v286, rfl, ho0, hb⟩; have n0_ := Aside0.mk (Kd.R_below (by (with_reducible repeat (first | apply Kd.R_alloc | apply Kd.R_drewN | apply Kd.R_drew)); exact HO284.out) hb); have n1_ := Aside0.mk (Kd.R_lower ho0 (below_size (by repeat (first | (with_reducible first | exact HB.out | apply below_alloc | apply pw_below_drewN | apply below_drew1) | exact HB.out)))); have n2_ := Aside0.mk (below_step (by repeat (first | (with_reducible first | exact HB.out | apply below_alloc | apply pw_below_drewN | apply below_drew1) | exact HB.out)) hb); clear HO284; clear HB; have HO284 := n0_; have HO287 := n1_; have HB := n2_; clear n0_ n1_ n2_; (try clear hb); (try clear hb2); (try clear hk); (try clear hi); (try clear ho0); obtain ⟨Ao27, co27, eo27⟩ := Kd.R_slice HO287.out; subst eo27) | (go_at_call 9; (with_reducible refine (zoneinforef17_Same.calls k2 _ _ t285 _ _ l0 t288 _ ?side1 ?side2 ?side3 ?side4 A24.out).mono ?_); (case side1 => repeat (first | exact (Kd.R_reads' HO287.out).2.2 | (with_reducible refine Kd.C_alloc ?_ _) | (with_reducible refine Kd.C_drewN ?_ _) | (with_reducible refine Kd.C_drew ?_))); (case side2 => exact (Kd.R_reads' HO287.out).2.1); (case side3 => repeat (first | exact (Kd.C_below HR0.out HB.out) | (with_reducible refine Kd.C_alloc ?_ _) | (with_reducible refine Kd.C_drewN ?_ _) | (with_reducible refine Kd.C_drew ?_))); (case side4 => exact HC0.out); rintro e w' ⟨rfl, ⟨nd, rfl⟩⟩))
                  go_meet
                  case rel => exact ⟨_, ((t288 != x8_2)), (by first | rfl | (simp; done) | (simp [*]; done)), H', ⟨by have := HJ3.out; have := HK2.out; first | omega | exact Nat.le_refl _⟩, ⟨by repeat (first | (with_reducible first | exact HB.out | apply below_alloc | apply pw_below_drewN | apply below_drew1) | exact HB.out)⟩⟩
                · rw [if_neg c22] at H
                  have c22b0 : ((t282.length : Int) == (wrap64 ((wrap64 (t279 + 4)) * (l0.length : Int)))) = false := beq_eq_false_iff_ne.mpr c22
                  have c22b1 : ((t282.length : Int) != (wrap64 ((wrap64 (t279 + 4)) * (l0.length : Int)))) = true := bne_iff_ne.mpr c22
                  (first | rw [c22b0] | (simp only [i64_w, i32_w]; rw [c22b0]) | skip)
                  have H' := Aside0.mk H
                  clear H
                  obtain ⟨Ao28, co28, eo28⟩ := Kd.R_slice HO284.out
                  subst eo28
                  go_wp2
                  go_meet
                  case rel => exact ⟨_, (true), (by first | rfl | (simp; done) | (simp [*]; done)), H', ⟨by have := HJ3.out; have := HK2.out; first | omega | exact Nat.le_refl _⟩, ⟨by repeat (first | (with_reducible first | exact HB.out | apply below_alloc | apply pw_below_drewN | apply below_drew1) | exact HB.out)⟩⟩
              case rest =>
                clear HC20
                try clear c1
                try clear c2
                try clear p2
                try clear q2
                try clear hx2
                try clear c4
                try clear c6
                try clear p6
                try clear c7
                try clear c7b0
                try clear c7b1
                try clear c8
                try clear c11
                try clear c13
                try clear c15
                try clear c15b0
                try clear c16
                try clear c17
                try clear c17b0
                try clear c22
                try clear c22b0
                try clear c22b1
                try clear p28
                try clear q28
                try clear hx28
                try clear hx280_0
                try clear hx280_1
                try clear p2
                try clear p280
                try clear q280
                obtain ⟨kq, x62_19, rfl, HA, HJ19, HB⟩ := hcut
                cases kq with
                | zero => exact absurd HA.out (by simp [zoneinfolaw17_LeapsRoundTrip.j2])
                | succ kj19 =>
                  have H := HA.out
                  clear HA
                  simp only [zoneinfolaw17_LeapsRoundTrip.j2] at H
                  by_cases c29 : x62_19 = true
                  · subst c29
                    have H1 : (none) = some r := by rw [if_pos rfl] at H; exact H
                    clear H
                    have H := H1
                    clear H1
                    exact absurd H (by simp)
                  · replace c29 := Bool.eq_false_iff.mpr c29
                    subst c29
                    have H1 : (if (wrap64 (t279 + 4)) = 0 then (none) else (if 0 ≤ (wrap64 ((wrap64 ((l1.length : Int) / (wrap64 (t279 + 4)))) * (wrap64 (t279 + 4)))) then (if (wrap64 ((wrap64 ((l1.length : Int) / (wrap64 (t279 + 4)))) * (wrap64 (t279 + 4)))) ≤ (l1.length : Int) then ((leaps_Decode.f kj19 (l1.take ((wrap64 ((wrap64 ((l1.length : Int) / (wrap64 (t279 + 4)))) * (wrap64 (t279 + 4)))) : Int).toNat) t279).bind fun t290 => ((leaps_Encode.f kj19 t290 t279).bind fun t293 => ((zoneinforef01_Same.f kj19 t293 (l1.take ((wrap64 ((wrap64 ((l1.length : Int) / (wrap64 (t279 + 4)))) * (wrap64 (t279 + 4)))) : Int).toNat)).bind fun t296 => (some t296)))) else (none)) else (none))) = some r := by rw [if_neg (show ¬ (false = true) by decide)] at H; exact H
                    clear H
                    have H := H1
                    clear H1
                    by_cases c30 : (wrap64 (t279 + 4)) = 0
                    · rw [if_pos c30] at H
                      exact absurd H (by simp)
                    · rw [if_neg c30] at H
                      have c30b0 : ((wrap64 (t279 + 4)) == 0) = false := beq_eq_false_iff_ne.mpr c30
                      have c30b1 : ((wrap64 (t279 + 4)) != 0) = true := bne_iff_ne.mpr c30
                      obtain ⟨ji31, hji31⟩ : ∃ j_ : Int, (wrap64 ((wrap64 ((l1.length : Int) / (wrap64 (t279 + 4)))) * (wrap64 (t279 + 4)))) = j_ := ⟨_, rfl⟩
                      replace H : (if 0 ≤ (ji31) then (if (ji31) ≤ (l1.length : Int) then ((leaps_Decode.f kj19 (l1.take ((ji31) : Int).toNat) t279).bind fun t290 => ((leaps_Encode.f kj19 t290 t279).bind fun t293 => ((zoneinforef01_Same.f kj19 t293 (l1.take ((ji31) : Int).toNat)).bind fun t296 => (some t296)))) else (none)) else (none)) = some r := by first | (rw [hji31] at H; exact H) | (simp only [hji31] at H ⊢; exact H)
                      have hji31w : (IntKind.i64.wrap ((wrap64 ((l1.length : Int) / (wrap64 (t279 + 4)))) * (wrap64 (t279 + 4)))) = ji31 := (i64_w _).trans hji31
                      by_cases c32 : 0 ≤ (ji31)
                      · rw [if_pos c32] at H
                        have c32b0 := eq_true c32
                        have c32b1 : decide (0 ≤ (ji31)) = true := decide_eq_true c32
                        clear c32
                        by_cases c33 : (ji31) ≤ (l1.length : Int)
                        · rw [if_pos c33] at H
                          have c33b0 := eq_true c33
                          have c33b1 : decide ((ji31) ≤ (l1.length : Int)) = true := decide_eq_true c33
                          clear c33
                          replace H := Option.bind_eq_some_iff.mp H
                          obtain ⟨t290, A340, H⟩ := H
                          replace H : ((leaps_Encode.f kj19 t290 t279).bind fun t293 => ((zoneinforef01_Same.f kj19 t293 (l1.take ((ji31) : Int).toNat)).bind fun t296 => (some t296))) = some r := H
                          have A34 := Aside0.mk A340
                          clear A340
                          replace H := Option.bind_eq_some_iff.mp H
                          obtain ⟨t293, A350, H⟩ := H
                          replace H : ((zoneinforef01_Same.f kj19 t293 (l1.take ((ji31) : Int).toNat)).bind fun t296 => (some t296)) = some r := H
                          have A35 := Aside0.mk A350
                          clear A350
                          replace H := Option.bind_eq_some_iff.mp H
                          obtain ⟨t296, A360, H⟩ := H
                          replace H : (some t296) = some r := H
                          have A36 := Aside0.mk A360
                          clear A360
                          obtain rfl := Option.some.inj H
                          obtain ⟨i037, hi037, _, hsz37, _⟩ := info_parts info5
                          obtain ⟨hcut37, hA37, hC37⟩ := print_take_of (P := Tryd.prog) (Value.int .u8) 0 22 5 .i64 Tryd.underlying22 hi037 hsz37 A1 c1 l1 (ji31) (of_decide_eq_true (by first | (with_reducible assumption) | assumption)) (of_decide_eq_true (by first | (with_reducible assumption) | assumption)) HC1.out
                          have HR289 := Aside0.mk (Kd.C_of_reads (h1 := fun _ => rfl) (hA37 _ (Kd.reads_of_C HR1.out)))
                          have HC289 := Aside0.mk hC37
                          clear hA37 hC37 hi037 hsz37
                          go_wp2_with (first | ((with_reducible refine gate_callee (f := 10) rfl ?_); refine goesL_ (some 75) rfl rfl Tryd.func10 (by kernel_rfl) rfl #[.slice A1 (l1.take ((ji31) : Int).toNat).length c1, .int .i64 t279] rfl (by (try simp only [List.map_toArray, List.map_cons, List.map_nil]); first | done | (rw [show (l1.take ((ji31) : Int).toNat).length = (ji31).toNat from (by rw [List.length_take]; have h_ : ((ji31) : Int) ≤ (l1.length : Int) := of_decide_eq_true (by first | (with_reducible assumption) | assumption); omega)] <;> rfl) | (simp only [hji31]; rfl) | rfl | (simp only [List.length_drop, List.length_take]; rfl)) ?_; (with_reducible refine (leaps_Decode.calls kj19 _ _ (l1.take ((ji31) : Int).toNat) t279 t290 _ ?side1 ?side2 A34.out).mono ?_); (case side1 => repeat (first | exact (Kd.C_below HR289.out HB.out) | (with_reducible refine Kd.C_alloc ?_ _) | (with_reducible refine Kd.C_drewN ?_ _) | (with_reducible refine Kd.C_drew ?_))); (case side2 => exact HC289.out); rintro e w38 ⟨v291, rfl, ho0, hb⟩; refine ⟨_, rfl, ?_⟩; have n0_ := Aside0.mk (Kd.R_lower ho0 (below_size (by repeat (first | (with_reducible first | exact HB.out | apply below_alloc | apply pw_below_drewN | apply below_drew1) | exact HB.out)))); have n1_ := Aside0.mk (below_step (by repeat (first | (with_reducible first | exact HB.out | apply below_alloc | apply pw_below_drewN | apply below_drew1) | exact HB.out)) hb); clear HB; have HO292 := n0_; have HB := n1_; clear n0_ n1_; (try clear hb); (try clear hb2); (try clear hk); (try clear hi); (try clear ho0); obtain ⟨Ao39, co39, eo39⟩ := Kd.R_slice HO292.out; subst eo39) | ((with_reducible refine gate_callee (f := 13) rfl ?_); refine goesL_ (some 77) rfl rfl Tryd.func13 (by kernel_rfl) rfl #[.slice Ao39 t290.length co39, .int .i64 t279] rfl (by (try simp only [List.map_toArray, List.map_cons, List.map_nil]); first | done | rfl | (simp only [List.length_drop, List.length_take]; rfl)) ?_; (with_reducible refine (leaps_Encode.calls kj19 _ _ t290 t279 t293 _ ?side1 ?side2 A35.out).mono ?_); (case side1 => repeat (first | exact (Kd.R_reads' HO292.out).2.2 | (with_reducible refine Kd.C_alloc ?_ _) | (with_reducible refine Kd.C_drewN ?_ _) | (with_reducible refine Kd.C_drew ?_))); (case side2 => exact (Kd.R_reads' HO292.out).2.1); rintro e w40 ⟨v294, rfl, ho0, hb⟩; refine ⟨_, rfl, ?_⟩; have n0_ := Aside0.mk (Kd.R_below (by (with_reducible repeat (first | apply Kd.R_alloc | apply Kd.R_drewN | apply Kd.R_drew)); exact HO292.out) hb); have n1_ := Aside0.mk (Kd.R_lower ho0 (below_size (by repeat (first | (with_reducible first | exact HB.out | apply below_alloc | apply pw_below_drewN | apply below_drew1) | exact HB.out)))); have n2_ := Aside0.mk (below_step (by repeat (first | (with_reducible first | exact HB.out | apply below_alloc | apply pw_below_drewN | apply below_drew1) | exact HB.out)) hb); clear HO292; clear HB; have HO292 := n0_; have HO295 := n1_; have HB := n2_; clear n0_ n1_ n2_; (try clear hb); (try clear hb2); (try clear hk); (try clear hi); (try clear ho0); obtain ⟨Ao41, co41, eo41⟩ := Kd.R_slice HO295.out; subst eo41) | ((with_reducible refine gate_callee (f := 12) rfl ?_); refine goesL_ (some 79) rfl rfl Tryd.func12 (by kernel_rfl) rfl #[.slice Ao41 t293.length co41, .slice A1 (l1.take ((ji31) : Int).toNat).length c1] rfl (by (try simp only [List.map_toArray, List.map_cons, List.map_nil]); first | done | (rw [show (l1.take ((ji31) : Int).toNat).length = (ji31).toNat from (by rw [List.length_take]; have h_ : ((ji31) : Int) ≤ (l1.length : Int) := of_decide_eq_true (by first | (with_reducible assumption) | assumption); omega)] <;> rfl) | (simp only [hji31]; rfl) | rfl | (simp only [List.length_drop, List.length_take]; rfl)) ?_; (with_reducible refine (zoneinforef01_Same.calls kj19 _ _ t293 _ _ (l1.take ((ji31) : Int).toNat) t296 _ ?side1 ?side2 ?side3 ?side4 A36.out).mono ?_); (case side1 => repeat (first | exact (Kd.R_reads' HO295.out).2.2 | (with_reducible refine Kd.C_alloc ?_ _) | (with_reducible refine Kd.C_drewN ?_ _) | (with_reducible refine Kd.C_drew ?_))); (case side2 => exact (Kd.R_reads' HO295.out).2.1); (case side3 => repeat (first | exact (Kd.C_below HR289.out HB.out) | (with_reducible refine Kd.C_alloc ?_ _) | (with_reducible refine Kd.C_drewN ?_ _) | (with_reducible refine Kd.C_drew ?_))); (case side4 => exact HC289.out); rintro e w' ⟨rfl, ⟨nd, rfl⟩⟩; refine ⟨_, rfl, ?_⟩))
                          go_ret
                          exact ⟨by first | rfl | (simp [errW_none, errW_some] <;> rfl) | (simp only [← hji31]; first | rfl | (simp [errW_none, errW_some] <;> rfl)) | (simp [*, errW_none, errW_some] <;> rfl), by repeat (first | (with_reducible first | exact HB.out | apply below_alloc | apply pw_below_drewN | apply below_drew1) | exact HB.out)⟩
                        · rw [if_neg c33] at H
                          exact absurd H (by simp)
                      · rw [if_neg c32] at H
                        exact absurd H (by simp)

end Go.Proofs.YtiaobffdggeofaaDoor.G
