/- Written by a program of this session for this seat: contracts of the functions that its laws reach, or the row of a law over its plain part. -/
import Derived.Test.YtljompndopfflaaGx0
import Derived.Test.YtljompndopfflaaGx5
import Derived.Test.YtljompndopfflaaGx6
namespace Go.Proofs.Ytljompndopfflaa.G
open Go.RowKit Go.Proofs.YtljompndopfflaaW.PrintWords Go.Proofs.YtljompndopfflaaW.PrintLast Go.Proofs.YtljompndopfflaaW.PrintMore
attribute [local go_sem] max2_int min2_int max_two min_two max_three min_three max_four min_four   -- for this text's walks alone
set_option linter.unusedVariables false
set_option linter.unusedSimpArgs false

/-! ### zoneinfolaw03_SizesLimitIsMonotone: function 5 -/
mutual
def zoneinfolaw03_SizesLimitIsMonotone.j0 : Nat → List Int → List Int → Int → Int → Bool → Option (Bool)
  | 0, _, _, _, _, _ => none
  | k + 1, x0, x1, x2, x3, x29 => if x29 = true then ((zoneinfolaw03_awake.f k).bind fun t165 => (some t165)) else ((sizes_Total.f k x0 x1 x2).bind fun bt166 => (if bt166.2 = true then ((sizes_Total.f k x0 x1 (IntKind.u64.wrap (x2 + (mn x3 (IntKind.u64.wrap (18446744073709551615 - x2)))))).bind fun bt168 => ((sizes_Total.f k x0 x1 bt166.1).bind fun bt170 => (if bt168.2 = true then (if bt168.1 = bt166.1 then (if bt170.2 = true then (if bt170.1 = bt166.1 then (zoneinfolaw03_SizesLimitIsMonotone.j1 k x0 x1 bt166.1 (decide (bt166.1 > x2))) else (zoneinfolaw03_SizesLimitIsMonotone.j1 k x0 x1 bt166.1 true)) else (zoneinfolaw03_SizesLimitIsMonotone.j1 k x0 x1 bt166.1 true)) else (zoneinfolaw03_SizesLimitIsMonotone.j1 k x0 x1 bt166.1 true)) else (zoneinfolaw03_SizesLimitIsMonotone.j1 k x0 x1 bt166.1 true)))) else (some (bt166.1 == 0))))
def zoneinfolaw03_SizesLimitIsMonotone.j1 : Nat → List Int → List Int → Int → Bool → Option (Bool)
  | 0, _, _, _, _ => none
  | k + 1, x0, x1, x9, x82 => if x82 = true then (some false) else (if x9 = 0 then (some true) else ((sizes_Total.f k x0 x1 (IntKind.u64.wrap (x9 - 1))).bind fun bt172 => (some (!bt172.2))))
end
def zoneinfolaw03_SizesLimitIsMonotone.f (k : Nat) (l0 : List Int) (l1 : List Int) (a2 : Int) (a3 : Int) : Option (Bool) := (zoneinfolaw03_awake.f k).bind fun t164 => (if t164 = true then (if (l0.length : Int) > 100 then (zoneinfolaw03_SizesLimitIsMonotone.j0 k l0 l1 a2 a3 true) else (zoneinfolaw03_SizesLimitIsMonotone.j0 k l0 l1 a2 a3 (decide ((l1.length : Int) > 100)))) else (zoneinfolaw03_SizesLimitIsMonotone.j0 k l0 l1 a2 a3 true))
theorem zoneinfolaw03_SizesLimitIsMonotone.mono_l : ∀ k, (∀ y0 y1 y2 y3 y4, LeO (zoneinfolaw03_SizesLimitIsMonotone.j0 k y0 y1 y2 y3 y4) (zoneinfolaw03_SizesLimitIsMonotone.j0 (k + 1) y0 y1 y2 y3 y4)) ∧ (∀ y0 y1 y2 y3, LeO (zoneinfolaw03_SizesLimitIsMonotone.j1 k y0 y1 y2 y3) (zoneinfolaw03_SizesLimitIsMonotone.j1 (k + 1) y0 y1 y2 y3))
  | 0 => ⟨fun _ _ _ _ _ r h => by simp [zoneinfolaw03_SizesLimitIsMonotone.j0] at h, fun _ _ _ _ r h => by simp [zoneinfolaw03_SizesLimitIsMonotone.j1] at h⟩
  | k + 1 => by
    obtain ⟨ih0, ih1⟩ := zoneinfolaw03_SizesLimitIsMonotone.mono_l k
    refine ⟨?_, ?_⟩
    · intro y0 y1 y2 y3 y4
      unfold zoneinfolaw03_SizesLimitIsMonotone.j0
      repeat' first
      | (with_reducible exact ih0 _ _ _ _ _)
      | (with_reducible exact ih1 _ _ _ _)
      | (with_reducible exact sizes_Total.mono _ _ _ _)
      | (with_reducible exact zoneinfolaw03_awake.mono _)
      | (with_reducible exact LeO.refl _)
      | (with_reducible exact LeO.none _)
      | (with_reducible refine LeO.ite ?_ ?_)
      | (with_reducible refine LeO.bind ?_ (fun _ => ?_))
      | exact ih0 _ _ _ _ _
      | exact ih1 _ _ _ _
      | exact sizes_Total.mono _ _ _ _
      | exact zoneinfolaw03_awake.mono _
      | exact LeO.none _
      | refine LeO.ite ?_ ?_
      | refine LeO.bind ?_ (fun _ => ?_)
    · intro y0 y1 y2 y3
      unfold zoneinfolaw03_SizesLimitIsMonotone.j1
      repeat' first
      | (with_reducible exact ih0 _ _ _ _ _)
      | (with_reducible exact ih1 _ _ _ _)
      | (with_reducible exact sizes_Total.mono _ _ _ _)
      | (with_reducible exact zoneinfolaw03_awake.mono _)
      | (with_reducible exact LeO.refl _)
      | (with_reducible exact LeO.none _)
      | (with_reducible refine LeO.ite ?_ ?_)
      | (with_reducible refine LeO.bind ?_ (fun _ => ?_))
      | exact ih0 _ _ _ _ _
      | exact ih1 _ _ _ _
      | exact sizes_Total.mono _ _ _ _
      | exact zoneinfolaw03_awake.mono _
      | exact LeO.none _
      | refine LeO.ite ?_ ?_
      | refine LeO.bind ?_ (fun _ => ?_)
theorem zoneinfolaw03_SizesLimitIsMonotone.mono : ∀ a0 a1 a2 a3 k, LeO (zoneinfolaw03_SizesLimitIsMonotone.f k a0 a1 a2 a3) (zoneinfolaw03_SizesLimitIsMonotone.f (k + 1) a0 a1 a2 a3) := by
  intro a0 a1 a2 a3 k
  obtain ⟨ih0, ih1⟩ := zoneinfolaw03_SizesLimitIsMonotone.mono_l k
  unfold zoneinfolaw03_SizesLimitIsMonotone.f
  repeat' first
      | (with_reducible exact ih0 _ _ _ _ _)
      | (with_reducible exact ih1 _ _ _ _)
      | (with_reducible exact sizes_Total.mono _ _ _ _)
      | (with_reducible exact zoneinfolaw03_awake.mono _)
      | (with_reducible exact LeO.refl _)
      | (with_reducible exact LeO.none _)
      | (with_reducible refine LeO.ite ?_ ?_)
      | (with_reducible refine LeO.bind ?_ (fun _ => ?_))
      | exact ih0 _ _ _ _ _
      | exact ih1 _ _ _ _
      | exact sizes_Total.mono _ _ _ _
      | exact zoneinfolaw03_awake.mono _
      | exact LeO.none _
      | refine LeO.ite ?_ ?_
      | refine LeO.bind ?_ (fun _ => ?_)
set_option maxHeartbeats 8000000 in
set_option maxRecDepth 100000 in
theorem zoneinfolaw03_SizesLimitIsMonotone.calls (k : Nat) (A0 : Option Addr) (c0 : Nat) (l0 : List Int) (A1 : Option Addr) (c1 : Nat) (l1 : List Int) (a2 : Int) (a3 : Int) (r : Bool) (w : World) (hr0 : Kd.C (Kd.int .u64) w A0 l0.length l0) (hc0 : l0.length ≤ c0) (hr1 : Kd.C (Kd.int .u64) w A1 l1.length l1) (hc1 : l1.length ≤ c1) (h : zoneinfolaw03_SizesLimitIsMonotone.f k l0 l1 a2 a3 = some r) :
    Calls Try.prog 5 #[.slice A0 l0.length c0, .slice A1 l1.length c1, .int .u64 a2, .int .u64 a3] w fun e w' => e = .returned (.bool r) ∧ Below w.heap.size w w' := by
  have HR0 := Aside0.mk hr0
  have HC0 := Aside0.mk hc0
  clear hr0 hc0
  have HR1 := Aside0.mk hr1
  have HC1 := Aside0.mk hc1
  clear hr1 hc1
  have HB := Aside0.mk (Below.refl w.heap.size w)
  have H : ((zoneinfolaw03_awake.f k).bind fun t164 => (if t164 = true then (if (l0.length : Int) > 100 then (zoneinfolaw03_SizesLimitIsMonotone.j0 k l0 l1 a2 a3 true) else (zoneinfolaw03_SizesLimitIsMonotone.j0 k l0 l1 a2 a3 (decide ((l1.length : Int) > 100)))) else (zoneinfolaw03_SizesLimitIsMonotone.j0 k l0 l1 a2 a3 true))) = some r := h
  clear h
  have HC5 := Aside0.mk H
  clear H
  go_enter Try.func5, Try.ntmps5
  go_upto_region 1 with (fail)
  go_cut [29] (fun v29 wc => ∃ (kq : Nat) (x29_4 : Bool), v29 = .bool x29_4 ∧ Aside0 (zoneinfolaw03_SizesLimitIsMonotone.j0 kq l0 l1 a2 a3 x29_4 = some r) ∧ Aside0 (kq ≤ k) ∧ Aside0 (Below w.heap.size w wc))
  case first =>
    have H := HC5.out
    clear HC5
    replace H := Option.bind_eq_some_iff.mp H
    obtain ⟨t164, A60, H⟩ := H
    replace H : (if t164 = true then (if (l0.length : Int) > 100 then (zoneinfolaw03_SizesLimitIsMonotone.j0 k l0 l1 a2 a3 true) else (zoneinfolaw03_SizesLimitIsMonotone.j0 k l0 l1 a2 a3 (decide ((l1.length : Int) > 100)))) else (zoneinfolaw03_SizesLimitIsMonotone.j0 k l0 l1 a2 a3 true)) = some r := H
    have A6 := Aside0.mk A60
    clear A60
    by_cases c7 : t164 = true
    · subst c7
      have H1 : (if (l0.length : Int) > 100 then (zoneinfolaw03_SizesLimitIsMonotone.j0 k l0 l1 a2 a3 true) else (zoneinfolaw03_SizesLimitIsMonotone.j0 k l0 l1 a2 a3 (decide ((l1.length : Int) > 100)))) = some r := by rw [if_pos rfl] at H; exact H
      clear H
      have H := H1
      clear H1
      by_cases c8 : (l0.length : Int) > 100
      · rw [if_pos c8] at H
        have c8b0 : decide (100 < (l0.length : Int)) = true := decide_eq_true c8
        have c8b1 : decide (100 < l0.length) = true := decide_eq_true (by omega)
        clear c8
        (first | rw [c8b0] | (simp only [i64_w, i32_w]; rw [c8b0]) | skip)
        have H' := Aside0.mk H
        clear H
        go_wp2_with (first | ((with_reducible refine gate_callee (f := 8) rfl ?_); refine goesL_ (some 18) rfl rfl Try.func8 (by kernel_rfl) rfl #[] rfl (by (try simp only [List.map_toArray, List.map_cons, List.map_nil]); first | done | rfl | (simp only [List.length_drop, List.length_take]; rfl)) ?_; (with_reducible refine (zoneinfolaw03_awake.calls k  true _ A6.out).mono ?_); rintro e w9 ⟨rfl, hb⟩; refine ⟨_, rfl, ?_⟩; have n0_ := Aside0.mk (below_step (by repeat (first | (with_reducible first | exact HB.out | apply below_alloc | apply pw_below_drewN | apply below_drew1) | exact HB.out)) hb); clear HB; have HB := n0_; clear n0_; (try clear hb); (try clear hb2); (try clear hk); (try clear hi)))
        go_meet
        case rel => exact ⟨_, (true), (by first | rfl | (simp; done) | (simp [*]; done)), H', ⟨by first | omega | exact Nat.le_refl _⟩, ⟨by repeat (first | (with_reducible first | exact HB.out | apply below_alloc | apply pw_below_drewN | apply below_drew1) | exact HB.out)⟩⟩
      · rw [if_neg c8] at H
        have c8b0 : decide (100 < (l0.length : Int)) = false := decide_eq_false c8
        have c8b1 : decide (100 < l0.length) = false := decide_eq_false (by omega)
        clear c8
        (first | rw [c8b0] | (simp only [i64_w, i32_w]; rw [c8b0]) | skip)
        have H' := Aside0.mk H
        clear H
        go_wp2_with (first | ((with_reducible refine gate_callee (f := 8) rfl ?_); refine goesL_ (some 18) rfl rfl Try.func8 (by kernel_rfl) rfl #[] rfl (by (try simp only [List.map_toArray, List.map_cons, List.map_nil]); first | done | rfl | (simp only [List.length_drop, List.length_take]; rfl)) ?_; (with_reducible refine (zoneinfolaw03_awake.calls k  true _ A6.out).mono ?_); rintro e w10 ⟨rfl, hb⟩; refine ⟨_, rfl, ?_⟩; have n0_ := Aside0.mk (below_step (by repeat (first | (with_reducible first | exact HB.out | apply below_alloc | apply pw_below_drewN | apply below_drew1) | exact HB.out)) hb); clear HB; have HB := n0_; clear n0_; (try clear hb); (try clear hb2); (try clear hk); (try clear hi)))
        go_meet
        case rel => exact ⟨_, (decide ((l1.length : Int) > 100)), (by first | rfl | (simp; done) | (simp [*]; done)), H', ⟨by first | omega | exact Nat.le_refl _⟩, ⟨by repeat (first | (with_reducible first | exact HB.out | apply below_alloc | apply pw_below_drewN | apply below_drew1) | exact HB.out)⟩⟩
    · replace c7 := Bool.eq_false_iff.mpr c7
      subst c7
      have H1 : (zoneinfolaw03_SizesLimitIsMonotone.j0 k l0 l1 a2 a3 true) = some r := by rw [if_neg (show ¬ (false = true) by decide)] at H; exact H
      clear H
      have H := H1
      clear H1
      have H' := Aside0.mk H
      clear H
      go_wp2_with (first | ((with_reducible refine gate_callee (f := 8) rfl ?_); refine goesL_ (some 18) rfl rfl Try.func8 (by kernel_rfl) rfl #[] rfl (by (try simp only [List.map_toArray, List.map_cons, List.map_nil]); first | done | rfl | (simp only [List.length_drop, List.length_take]; rfl)) ?_; (with_reducible refine (zoneinfolaw03_awake.calls k  false _ A6.out).mono ?_); rintro e w11 ⟨rfl, hb⟩; refine ⟨_, rfl, ?_⟩; have n0_ := Aside0.mk (below_step (by repeat (first | (with_reducible first | exact HB.out | apply below_alloc | apply pw_below_drewN | apply below_drew1) | exact HB.out)) hb); clear HB; have HB := n0_; clear n0_; (try clear hb); (try clear hb2); (try clear hk); (try clear hi)))
      go_meet
      case rel => exact ⟨_, (true), (by first | rfl | (simp; done) | (simp [*]; done)), H', ⟨by first | omega | exact Nat.le_refl _⟩, ⟨by repeat (first | (with_reducible first | exact HB.out | apply below_alloc | apply pw_below_drewN | apply below_drew1) | exact HB.out)⟩⟩
  case rest =>
    clear HC5
    try clear c1
    try clear p2
    try clear c5
    try clear c7
    try clear c8
    try clear c8b0
    try clear c8b1
    obtain ⟨kq, x29_4, rfl, HA, HJ4, HB⟩ := hcut
    cases kq with
    | zero => exact absurd HA.out (by simp [zoneinfolaw03_SizesLimitIsMonotone.j0])
    | succ kj4 =>
      have H := HA.out
      clear HA
      simp only [zoneinfolaw03_SizesLimitIsMonotone.j0] at H
      by_cases c12 : x29_4 = true
      · subst c12
        have H1 : ((zoneinfolaw03_awake.f kj4).bind fun t165 => (some t165)) = some r := by rw [if_pos rfl] at H; exact H
        clear H
        have H := H1
        clear H1
        replace H := Option.bind_eq_some_iff.mp H
        obtain ⟨t165, A130, H⟩ := H
        replace H : (some t165) = some r := H
        have A13 := Aside0.mk A130
        clear A130
        obtain rfl := Option.some.inj H
        go_wp2_with (first | ((with_reducible refine gate_callee (f := 8) rfl ?_); refine goesL_ (some 30) rfl rfl Try.func8 (by kernel_rfl) rfl #[] rfl (by (try simp only [List.map_toArray, List.map_cons, List.map_nil]); first | done | rfl | (simp only [List.length_drop, List.length_take]; rfl)) ?_; (with_reducible refine (zoneinfolaw03_awake.calls kj4  t165 _ A13.out).mono ?_); rintro e w14 ⟨rfl, hb⟩; refine ⟨_, rfl, ?_⟩; have n0_ := Aside0.mk (below_step (by repeat (first | (with_reducible first | exact HB.out | apply below_alloc | apply pw_below_drewN | apply below_drew1) | exact HB.out)) hb); clear HB; have HB := n0_; clear n0_; (try clear hb); (try clear hb2); (try clear hk); (try clear hi)))
        go_ret
        exact ⟨by first | rfl | (simp [errW_none, errW_some] <;> rfl) | (simp [*, errW_none, errW_some] <;> rfl), by repeat (first | (with_reducible first | exact HB.out | apply below_alloc | apply pw_below_drewN | apply below_drew1) | exact HB.out)⟩
      · replace c12 := Bool.eq_false_iff.mpr c12
        subst c12
        have H1 : ((sizes_Total.f kj4 l0 l1 a2).bind fun bt166 => (if bt166.2 = true then ((sizes_Total.f kj4 l0 l1 (IntKind.u64.wrap (a2 + (mn a3 (IntKind.u64.wrap (18446744073709551615 - a2)))))).bind fun bt168 => ((sizes_Total.f kj4 l0 l1 bt166.1).bind fun bt170 => (if bt168.2 = true then (if bt168.1 = bt166.1 then (if bt170.2 = true then (if bt170.1 = bt166.1 then (zoneinfolaw03_SizesLimitIsMonotone.j1 kj4 l0 l1 bt166.1 (decide (bt166.1 > a2))) else (zoneinfolaw03_SizesLimitIsMonotone.j1 kj4 l0 l1 bt166.1 true)) else (zoneinfolaw03_SizesLimitIsMonotone.j1 kj4 l0 l1 bt166.1 true)) else (zoneinfolaw03_SizesLimitIsMonotone.j1 kj4 l0 l1 bt166.1 true)) else (zoneinfolaw03_SizesLimitIsMonotone.j1 kj4 l0 l1 bt166.1 true)))) else (some (bt166.1 == 0)))) = some r := by rw [if_neg (show ¬ (false = true) by decide)] at H; exact H
        clear H
        have H := H1
        clear H1
        replace H := Option.bind_eq_some_iff.mp H
        obtain ⟨⟨t166, t167⟩, A150, H⟩ := H
        replace H : (if t167 = true then ((sizes_Total.f kj4 l0 l1 (IntKind.u64.wrap (a2 + (mn a3 (IntKind.u64.wrap (18446744073709551615 - a2)))))).bind fun bt168 => ((sizes_Total.f kj4 l0 l1 t166).bind fun bt170 => (if bt168.2 = true then (if bt168.1 = t166 then (if bt170.2 = true then (if bt170.1 = t166 then (zoneinfolaw03_SizesLimitIsMonotone.j1 kj4 l0 l1 t166 (decide (t166 > a2))) else (zoneinfolaw03_SizesLimitIsMonotone.j1 kj4 l0 l1 t166 true)) else (zoneinfolaw03_SizesLimitIsMonotone.j1 kj4 l0 l1 t166 true)) else (zoneinfolaw03_SizesLimitIsMonotone.j1 kj4 l0 l1 t166 true)) else (zoneinfolaw03_SizesLimitIsMonotone.j1 kj4 l0 l1 t166 true)))) else (some (t166 == 0))) = some r := H
        have A15 := Aside0.mk A150
        clear A150
        by_cases c16 : t167 = true
        · subst c16
          have H1 : ((sizes_Total.f kj4 l0 l1 (IntKind.u64.wrap (a2 + (mn a3 (IntKind.u64.wrap (18446744073709551615 - a2)))))).bind fun bt168 => ((sizes_Total.f kj4 l0 l1 t166).bind fun bt170 => (if bt168.2 = true then (if bt168.1 = t166 then (if bt170.2 = true then (if bt170.1 = t166 then (zoneinfolaw03_SizesLimitIsMonotone.j1 kj4 l0 l1 t166 (decide (t166 > a2))) else (zoneinfolaw03_SizesLimitIsMonotone.j1 kj4 l0 l1 t166 true)) else (zoneinfolaw03_SizesLimitIsMonotone.j1 kj4 l0 l1 t166 true)) else (zoneinfolaw03_SizesLimitIsMonotone.j1 kj4 l0 l1 t166 true)) else (zoneinfolaw03_SizesLimitIsMonotone.j1 kj4 l0 l1 t166 true)))) = some r := by rw [if_pos rfl] at H; exact H
          clear H
          have H := H1
          clear H1
          obtain ⟨ji17, hji17⟩ : ∃ j_ : Int, (mn a3 (IntKind.u64.wrap (18446744073709551615 - a2))) = j_ := ⟨_, rfl⟩
          replace H : ((sizes_Total.f kj4 l0 l1 (IntKind.u64.wrap (a2 + (ji17)))).bind fun bt168 => ((sizes_Total.f kj4 l0 l1 t166).bind fun bt170 => (if bt168.2 = true then (if bt168.1 = t166 then (if bt170.2 = true then (if bt170.1 = t166 then (zoneinfolaw03_SizesLimitIsMonotone.j1 kj4 l0 l1 t166 (decide (t166 > a2))) else (zoneinfolaw03_SizesLimitIsMonotone.j1 kj4 l0 l1 t166 true)) else (zoneinfolaw03_SizesLimitIsMonotone.j1 kj4 l0 l1 t166 true)) else (zoneinfolaw03_SizesLimitIsMonotone.j1 kj4 l0 l1 t166 true)) else (zoneinfolaw03_SizesLimitIsMonotone.j1 kj4 l0 l1 t166 true)))) = some r := by first | (rw [hji17] at H; exact H) | (simp only [hji17] at H ⊢; exact H)
          (try rw [hji17] at A15)
          have hji17_ : (if (IntKind.u64.wrap (18446744073709551615 - a2)) < a3 then (IntKind.u64.wrap (18446744073709551615 - a2)) else a3) = ji17 := hji17
          replace H := Option.bind_eq_some_iff.mp H
          obtain ⟨⟨t168, t169⟩, A180, H⟩ := H
          replace H : ((sizes_Total.f kj4 l0 l1 t166).bind fun bt170 => (if t169 = true then (if t168 = t166 then (if bt170.2 = true then (if bt170.1 = t166 then (zoneinfolaw03_SizesLimitIsMonotone.j1 kj4 l0 l1 t166 (decide (t166 > a2))) else (zoneinfolaw03_SizesLimitIsMonotone.j1 kj4 l0 l1 t166 true)) else (zoneinfolaw03_SizesLimitIsMonotone.j1 kj4 l0 l1 t166 true)) else (zoneinfolaw03_SizesLimitIsMonotone.j1 kj4 l0 l1 t166 true)) else (zoneinfolaw03_SizesLimitIsMonotone.j1 kj4 l0 l1 t166 true))) = some r := H
          have A18 := Aside0.mk A180
          clear A180
          replace H := Option.bind_eq_some_iff.mp H
          obtain ⟨⟨t170, t171⟩, A190, H⟩ := H
          replace H : (if t169 = true then (if t168 = t166 then (if t171 = true then (if t170 = t166 then (zoneinfolaw03_SizesLimitIsMonotone.j1 kj4 l0 l1 t166 (decide (t166 > a2))) else (zoneinfolaw03_SizesLimitIsMonotone.j1 kj4 l0 l1 t166 true)) else (zoneinfolaw03_SizesLimitIsMonotone.j1 kj4 l0 l1 t166 true)) else (zoneinfolaw03_SizesLimitIsMonotone.j1 kj4 l0 l1 t166 true)) else (zoneinfolaw03_SizesLimitIsMonotone.j1 kj4 l0 l1 t166 true)) = some r := H
          have A19 := Aside0.mk A190
          clear A190
          have HC20 := Aside0.mk H
          clear H
          go_upto_region 9 with (first | ((with_reducible refine gate_callee (f := 13) rfl ?_); refine goesL_ (some 35) rfl rfl Try.func13 (by kernel_rfl) rfl #[.slice A0 l0.length c0, .slice A1 l1.length c1, .int .u64 a2] rfl (by (try simp only [List.map_toArray, List.map_cons, List.map_nil]); first | done | rfl | (simp only [List.length_drop, List.length_take]; rfl)) ?_; (with_reducible refine (sizes_Total.calls kj4 _ _ l0 _ _ l1 a2 t166 true _ ?side1 ?side2 ?side3 ?side4 A15.out).mono ?_); (case side1 => repeat (first | exact (Kd.C_below HR0.out HB.out) | (with_reducible refine Kd.C_alloc ?_ _) | (with_reducible refine Kd.C_drewN ?_ _) | (with_reducible refine Kd.C_drew ?_))); (case side2 => exact HC0.out); (case side3 => repeat (first | exact (Kd.C_below HR1.out HB.out) | (with_reducible refine Kd.C_alloc ?_ _) | (with_reducible refine Kd.C_drewN ?_ _) | (with_reducible refine Kd.C_drew ?_))); (case side4 => exact HC1.out); rintro e w21 ⟨rfl, hb⟩; refine ⟨_, rfl, ?_⟩; have n0_ := Aside0.mk (below_step (by repeat (first | (with_reducible first | exact HB.out | apply below_alloc | apply pw_below_drewN | apply below_drew1) | exact HB.out)) hb); clear HB; have HB := n0_; clear n0_; (try clear hb); (try clear hb2); (try clear hk); (try clear hi)) | ((with_reducible refine gate_callee (f := 13) rfl ?_); refine goesL_ (some 52) rfl rfl Try.func13 (by kernel_rfl) rfl #[.slice A0 l0.length c0, .slice A1 l1.length c1, .int .u64 (IntKind.u64.wrap (a2 + (ji17)))] rfl (by (try simp only [List.map_toArray, List.map_cons, List.map_nil]); first | done | (simp only [hji17]; rfl) | rfl | (simp only [List.length_drop, List.length_take]; rfl)) ?_; (with_reducible refine (sizes_Total.calls kj4 _ _ l0 _ _ l1 (IntKind.u64.wrap (a2 + (ji17))) t168 t169 _ ?side1 ?side2 ?side3 ?side4 A18.out).mono ?_); (case side1 => repeat (first | exact (Kd.C_below HR0.out HB.out) | (with_reducible refine Kd.C_alloc ?_ _) | (with_reducible refine Kd.C_drewN ?_ _) | (with_reducible refine Kd.C_drew ?_))); (case side2 => exact HC0.out); (case side3 => repeat (first | exact (Kd.C_below HR1.out HB.out) | (with_reducible refine Kd.C_alloc ?_ _) | (with_reducible refine Kd.C_drewN ?_ _) | (with_reducible refine Kd.C_drew ?_))); (case side4 => exact HC1.out); rintro e w22 ⟨rfl, hb⟩; refine ⟨_, rfl, ?_⟩; have n0_ := Aside0.mk (below_step (by repeat (first | (with_reducible first | exact HB.out | apply below_alloc | apply pw_below_drewN | apply below_drew1) | exact HB.out)) hb); clear HB; have HB := n0_; clear n0_; (try clear hb); (try clear hb2); (try clear hk); (try clear hi)) | ((with_reducible refine gate_callee (f := 13) rfl ?_); refine goesL_ (some 59) rfl rfl Try.func13 (by kernel_rfl) rfl #[.slice A0 l0.length c0, .slice A1 l1.length c1, .int .u64 t166] rfl (by (try simp only [List.map_toArray, List.map_cons, List.map_nil]); first | done | rfl | (simp only [List.length_drop, List.length_take]; rfl)) ?_; (with_reducible refine (sizes_Total.calls kj4 _ _ l0 _ _ l1 t166 t170 t171 _ ?side1 ?side2 ?side3 ?side4 A19.out).mono ?_); (case side1 => repeat (first | exact (Kd.C_below HR0.out HB.out) | (with_reducible refine Kd.C_alloc ?_ _) | (with_reducible refine Kd.C_drewN ?_ _) | (with_reducible refine Kd.C_drew ?_))); (case side2 => exact HC0.out); (case side3 => repeat (first | exact (Kd.C_below HR1.out HB.out) | (with_reducible refine Kd.C_alloc ?_ _) | (with_reducible refine Kd.C_drewN ?_ _) | (with_reducible refine Kd.C_drew ?_))); (case side4 => exact HC1.out); rintro e w23 ⟨rfl, hb⟩; refine ⟨_, rfl, ?_⟩; have n0_ := Aside0.mk (below_step (by repeat (first | (with_reducible first | exact HB.out | apply below_alloc | apply pw_below_drewN | apply below_drew1) | exact HB.out)) hb); clear HB; have HB := n0_; clear n0_; (try clear hb); (try clear hb2); (try clear hk); (try clear hi)))
          (try simp only [Act.put, List.setIfInBounds_toArray, List.set_cons_zero, List.set_cons_succ])
          go_cut [82] (fun v82 wc => ∃ (kq : Nat) (x82_19 : Bool), v82 = .bool x82_19 ∧ Aside0 (zoneinfolaw03_SizesLimitIsMonotone.j1 kq l0 l1 t166 x82_19 = some r) ∧ Aside0 (kq ≤ kj4) ∧ Aside0 (Below w.heap.size w wc))
          case first =>
            have H := HC20.out
            clear HC20
            by_cases c24 : t169 = true
            · subst c24
              have H1 : (if t168 = t166 then (if t171 = true then (if t170 = t166 then (zoneinfolaw03_SizesLimitIsMonotone.j1 kj4 l0 l1 t166 (decide (t166 > a2))) else (zoneinfolaw03_SizesLimitIsMonotone.j1 kj4 l0 l1 t166 true)) else (zoneinfolaw03_SizesLimitIsMonotone.j1 kj4 l0 l1 t166 true)) else (zoneinfolaw03_SizesLimitIsMonotone.j1 kj4 l0 l1 t166 true)) = some r := by rw [if_pos rfl] at H; exact H
              clear H
              have H := H1
              clear H1
              by_cases c25 : t168 = t166
              · rw [if_pos c25] at H
                have c25b0 : (t168 == t166) = true := beq_iff_eq.mpr c25
                have c25b1 : (t168 != t166) = false := bne_eq_false_iff_eq.mpr c25
                clear c25
                (first | rw [c25b0] | (simp only [i64_w, i32_w]; rw [c25b0]) | skip)
                by_cases c26 : t171 = true
                · subst c26
                  have H1 : (if t170 = t166 then (zoneinfolaw03_SizesLimitIsMonotone.j1 kj4 l0 l1 t166 (decide (t166 > a2))) else (zoneinfolaw03_SizesLimitIsMonotone.j1 kj4 l0 l1 t166 true)) = some r := by rw [if_pos rfl] at H; exact H
                  clear H
                  have H := H1
                  clear H1
                  by_cases c27 : t170 = t166
                  · rw [if_pos c27] at H
                    have c27b0 : (t170 == t166) = true := beq_iff_eq.mpr c27
                    have c27b1 : (t170 != t166) = false := bne_eq_false_iff_eq.mpr c27
                    clear c27
                    have H' := Aside0.mk H
                    clear H
                    go_wp2
                    go_meet
                    case rel => exact ⟨_, (decide (t166 > a2)), (by first | rfl | (simp; done) | (simp [*]; done)), H', ⟨by have := HJ4.out; first | omega | exact Nat.le_refl _⟩, ⟨by repeat (first | (with_reducible first | exact HB.out | apply below_alloc | apply pw_below_drewN | apply below_drew1) | exact HB.out)⟩⟩
                  · rw [if_neg c27] at H
                    have c27b0 : (t170 == t166) = false := beq_eq_false_iff_ne.mpr c27
                    have c27b1 : (t170 != t166) = true := bne_iff_ne.mpr c27
                    have H' := Aside0.mk H
                    clear H
                    go_wp2
                    go_meet
                    case rel => exact ⟨_, (true), (by first | rfl | (simp; done) | (simp [*]; done)), H', ⟨by have := HJ4.out; first | omega | exact Nat.le_refl _⟩, ⟨by repeat (first | (with_reducible first | exact HB.out | apply below_alloc | apply pw_below_drewN | apply below_drew1) | exact HB.out)⟩⟩
                · replace c26 := Bool.eq_false_iff.mpr c26
                  subst c26
                  have H1 : (zoneinfolaw03_SizesLimitIsMonotone.j1 kj4 l0 l1 t166 true) = some r := by rw [if_neg (show ¬ (false = true) by decide)] at H; exact H
                  clear H
                  have H := H1
                  clear H1
                  have H' := Aside0.mk H
                  clear H
                  go_wp2
                  go_meet
                  case rel => exact ⟨_, (true), (by first | rfl | (simp; done) | (simp [*]; done)), H', ⟨by have := HJ4.out; first | omega | exact Nat.le_refl _⟩, ⟨by repeat (first | (with_reducible first | exact HB.out | apply below_alloc | apply pw_below_drewN | apply below_drew1) | exact HB.out)⟩⟩
              · rw [if_neg c25] at H
                have c25b0 : (t168 == t166) = false := beq_eq_false_iff_ne.mpr c25
                have c25b1 : (t168 != t166) = true := bne_iff_ne.mpr c25
                (first | rw [c25b0] | (simp only [i64_w, i32_w]; rw [c25b0]) | skip)
                have H' := Aside0.mk H
                clear H
                go_wp2
                go_meet
                case rel => exact ⟨_, (true), (by first | rfl | (simp; done) | (simp [*]; done)), H', ⟨by have := HJ4.out; first | omega | exact Nat.le_refl _⟩, ⟨by repeat (first | (with_reducible first | exact HB.out | apply below_alloc | apply pw_below_drewN | apply below_drew1) | exact HB.out)⟩⟩
            · replace c24 := Bool.eq_false_iff.mpr c24
              subst c24
              have H1 : (zoneinfolaw03_SizesLimitIsMonotone.j1 kj4 l0 l1 t166 true) = some r := by rw [if_neg (show ¬ (false = true) by decide)] at H; exact H
              clear H
              have H := H1
              clear H1
              have H' := Aside0.mk H
              clear H
              go_wp2
              go_meet
              case rel => exact ⟨_, (true), (by first | rfl | (simp; done) | (simp [*]; done)), H', ⟨by have := HJ4.out; first | omega | exact Nat.le_refl _⟩, ⟨by repeat (first | (with_reducible first | exact HB.out | apply below_alloc | apply pw_below_drewN | apply below_drew1) | exact HB.out)⟩⟩
          case rest =>
            clear HC20
            try clear c1
            try clear c2
            try clear p2
            try clear c5
            try clear c7
            try clear c8
            try clear c8b0
            try clear c8b1
            try clear c12
            try clear c13
            try clear c16
            try clear c24
            try clear c25
            try clear c25b0
            try clear c25b1
            try clear c26
            try clear c27
            try clear c27b0
            try clear c27b1
            try clear p2
            obtain ⟨kq, x82_19, rfl, HA, HJ19, HB⟩ := hcut
            cases kq with
            | zero => exact absurd HA.out (by simp [zoneinfolaw03_SizesLimitIsMonotone.j1])
            | succ kj19 =>
              have H := HA.out
              clear HA
              simp only [zoneinfolaw03_SizesLimitIsMonotone.j1] at H
              by_cases c28 : x82_19 = true
              · subst c28
                have H1 : (some false) = some r := by rw [if_pos rfl] at H; exact H
                clear H
                have H := H1
                clear H1
                obtain rfl := Option.some.inj H
                go_wp2
                go_ret
                exact ⟨by first | rfl | (simp [errW_none, errW_some] <;> rfl) | (simp only [← hji17]; first | rfl | (simp [errW_none, errW_some] <;> rfl)) | (simp [*, errW_none, errW_some] <;> rfl), by repeat (first | (with_reducible first | exact HB.out | apply below_alloc | apply pw_below_drewN | apply below_drew1) | exact HB.out)⟩
              · replace c28 := Bool.eq_false_iff.mpr c28
                subst c28
                have H1 : (if t166 = 0 then (some true) else ((sizes_Total.f kj19 l0 l1 (IntKind.u64.wrap (t166 - 1))).bind fun bt172 => (some (!bt172.2)))) = some r := by rw [if_neg (show ¬ (false = true) by decide)] at H; exact H
                clear H
                have H := H1
                clear H1
                by_cases c29 : t166 = 0
                · rw [if_pos c29] at H
                  have c29b0 : (t166 == 0) = true := beq_iff_eq.mpr c29
                  have c29b1 : (t166 != 0) = false := bne_eq_false_iff_eq.mpr c29
                  clear c29
                  obtain rfl := Option.some.inj H
                  go_wp2
                  go_ret
                  exact ⟨by first | rfl | (simp [errW_none, errW_some] <;> rfl) | (simp only [← hji17]; first | rfl | (simp [errW_none, errW_some] <;> rfl)) | (simp [*, errW_none, errW_some] <;> rfl), by repeat (first | (with_reducible first | exact HB.out | apply below_alloc | apply pw_below_drewN | apply below_drew1) | exact HB.out)⟩
                · rw [if_neg c29] at H
                  have c29b0 : (t166 == 0) = false := beq_eq_false_iff_ne.mpr c29
                  have c29b1 : (t166 != 0) = true := bne_iff_ne.mpr c29
                  replace H := Option.bind_eq_some_iff.mp H
                  obtain ⟨⟨t172, t173⟩, A300, H⟩ := H
                  replace H : (some (!t173)) = some r := H
                  have A30 := Aside0.mk A300
                  clear A300
                  obtain rfl := Option.some.inj H
                  go_wp2_with (first | ((with_reducible refine gate_callee (f := 13) rfl ?_); refine goesL_ (some 90) rfl rfl Try.func13 (by kernel_rfl) rfl #[.slice A0 l0.length c0, .slice A1 l1.length c1, .int .u64 (IntKind.u64.wrap (t166 - 1))] rfl (by (try simp only [List.map_toArray, List.map_cons, List.map_nil]); first | done | rfl | (simp only [List.length_drop, List.length_take]; rfl)) ?_; (with_reducible refine (sizes_Total.calls kj19 _ _ l0 _ _ l1 (IntKind.u64.wrap (t166 - 1)) t172 t173 _ ?side1 ?side2 ?side3 ?side4 A30.out).mono ?_); (case side1 => repeat (first | exact (Kd.C_below HR0.out HB.out) | (with_reducible refine Kd.C_alloc ?_ _) | (with_reducible refine Kd.C_drewN ?_ _) | (with_reducible refine Kd.C_drew ?_))); (case side2 => exact HC0.out); (case side3 => repeat (first | exact (Kd.C_below HR1.out HB.out) | (with_reducible refine Kd.C_alloc ?_ _) | (with_reducible refine Kd.C_drewN ?_ _) | (with_reducible refine Kd.C_drew ?_))); (case side4 => exact HC1.out); rintro e w31 ⟨rfl, hb⟩; refine ⟨_, rfl, ?_⟩; have n0_ := Aside0.mk (below_step (by repeat (first | (with_reducible first | exact HB.out | apply below_alloc | apply pw_below_drewN | apply below_drew1) | exact HB.out)) hb); clear HB; have HB := n0_; clear n0_; (try clear hb); (try clear hb2); (try clear hk); (try clear hi)))
                  go_ret
                  exact ⟨by first | rfl | (simp [errW_none, errW_some] <;> rfl) | (simp only [← hji17]; first | rfl | (simp [errW_none, errW_some] <;> rfl)) | (simp [*, errW_none, errW_some] <;> rfl), by repeat (first | (with_reducible first | exact HB.out | apply below_alloc | apply pw_below_drewN | apply below_drew1) | exact HB.out)⟩
        · replace c16 := Bool.eq_false_iff.mpr c16
          subst c16
          have H1 : (some (t166 == 0)) = some r := by rw [if_neg (show ¬ (false = true) by decide)] at H; exact H
          clear H
          have H := H1
          clear H1
          obtain rfl := Option.some.inj H
          go_wp2_with (first | ((with_reducible refine gate_callee (f := 13) rfl ?_); refine goesL_ (some 35) rfl rfl Try.func13 (by kernel_rfl) rfl #[.slice A0 l0.length c0, .slice A1 l1.length c1, .int .u64 a2] rfl (by (try simp only [List.map_toArray, List.map_cons, List.map_nil]); first | done | rfl | (simp only [List.length_drop, List.length_take]; rfl)) ?_; (with_reducible refine (sizes_Total.calls kj4 _ _ l0 _ _ l1 a2 t166 false _ ?side1 ?side2 ?side3 ?side4 A15.out).mono ?_); (case side1 => repeat (first | exact (Kd.C_below HR0.out HB.out) | (with_reducible refine Kd.C_alloc ?_ _) | (with_reducible refine Kd.C_drewN ?_ _) | (with_reducible refine Kd.C_drew ?_))); (case side2 => exact HC0.out); (case side3 => repeat (first | exact (Kd.C_below HR1.out HB.out) | (with_reducible refine Kd.C_alloc ?_ _) | (with_reducible refine Kd.C_drewN ?_ _) | (with_reducible refine Kd.C_drew ?_))); (case side4 => exact HC1.out); rintro e w32 ⟨rfl, hb⟩; refine ⟨_, rfl, ?_⟩; have n0_ := Aside0.mk (below_step (by repeat (first | (with_reducible first | exact HB.out | apply below_alloc | apply pw_below_drewN | apply below_drew1) | exact HB.out)) hb); clear HB; have HB := n0_; clear n0_; (try clear hb); (try clear hb2); (try clear hk); (try clear hi)))
          go_ret
          exact ⟨by first | rfl | (simp [errW_none, errW_some] <;> rfl) | (simp [*, errW_none, errW_some] <;> rfl), by repeat (first | (with_reducible first | exact HB.out | apply below_alloc | apply pw_below_drewN | apply below_drew1) | exact HB.out)⟩

/-- THE ONE PURE STATEMENT of zoneinfolaw03_SizesLimitIsMonotone: yours. -/
def zoneinfolaw03_SizesLimitIsMonotone.Pure : Prop := ∀ (l0 : List Int) (l1 : List Int) (a2 : Int) (a3 : Int), l0.length ≤ maxLen → l0.length * 8 ≤ 140737488351232 → (∀ x ∈ l0, (Lit.int .u64 x).wf = true) → l1.length ≤ maxLen → l1.length * 8 ≤ 140737488351232 → (∀ x ∈ l1, (Lit.int .u64 x).wf = true) → (Lit.int .u64 a2).wf = true → (Lit.int .u64 a3).wf = true → ∃ k, zoneinfolaw03_SizesLimitIsMonotone.f k l0 l1 a2 a3 = some true
theorem zoneinfolaw03_SizesLimitIsMonotone.walk (P : zoneinfolaw03_SizesLimitIsMonotone.Pure) (a0 : Option Addr) (len0 cap0 : Nat) (z0 : List Int) (a1 : Option Addr) (len1 cap1 : Nat) (z1 : List Int) (a2 : Int) (a3 : Int) (w : World) (w0 : (a0 = none ∧ len0 = 0 ∧ cap0 = 0 ∧ z0 = []) ∨ ∃ x, a0 = some x ∧ len0 ≤ cap0 ∧ cap0 ≤ maxLen ∧ z0.length = cap0 ∧ (∀ i, i < z0.length → w.cell? (x.add i) = some (.int .u64 (z0.getD i 0))) ∧ ∀ n ∈ z0, (Lit.int .u64 n).wf = true) (y0 : len0 * 8 ≤ 140737488351232) (w1 : (a1 = none ∧ len1 = 0 ∧ cap1 = 0 ∧ z1 = []) ∨ ∃ x, a1 = some x ∧ len1 ≤ cap1 ∧ cap1 ≤ maxLen ∧ z1.length = cap1 ∧ (∀ i, i < z1.length → w.cell? (x.add i) = some (.int .u64 (z1.getD i 0))) ∧ ∀ n ∈ z1, (Lit.int .u64 n).wf = true) (y1 : len1 * 8 ≤ 140737488351232) (w2 : (Lit.int .u64 a2).wf = true) (w3 : (Lit.int .u64 a3).wf = true) :
    Calls Try.prog 5 #[.slice a0 len0 cap0, .slice a1 len1 cap1, .int .u64 a2, .int .u64 a3] w fun e w' => e = .returned (.bool true) ∧ Below w.heap.size w w' := by
  obtain ⟨l0, rfl, hr0, hm0, hw0, hc0⟩ := ReadsInt.ofRowC w0
  obtain ⟨l1, rfl, hr1, hm1, hw1, hc1⟩ := ReadsInt.ofRowC w1
  obtain ⟨k, h⟩ := P l0 l1 a2 a3 hm0 y0 hw0 hm1 y1 hw1 w2 w3
  refine (zoneinfolaw03_SizesLimitIsMonotone.calls k _ _ l0 _ _ l1 a2 a3 true w (Kd.C_of_reads (d := (0 : Int)) (h1 := fun _ => rfl) hr0) hc0 (Kd.C_of_reads (d := (0 : Int)) (h1 := fun _ => rfl) hr1) hc1 h).mono ?_
  rintro e w' ⟨rfl, hd⟩
  exact ⟨rfl, hd⟩

end Go.Proofs.Ytljompndopfflaa.G
