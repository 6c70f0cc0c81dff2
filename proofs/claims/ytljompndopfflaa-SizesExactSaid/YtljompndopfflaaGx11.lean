/- Written by a program of this session for this seat: contracts of the functions that its laws reach, or the row of a law over its plain part. -/
import Derived.Test.YtljompndopfflaaGx0
import Derived.Test.YtljompndopfflaaGx2
import Derived.Test.YtljompndopfflaaGx4
import Derived.Test.YtljompndopfflaaGx6
namespace Go.Proofs.Ytljompndopfflaa.G
open Go.RowKit Go.Proofs.YtljompndopfflaaW.PrintWords Go.Proofs.YtljompndopfflaaW.PrintLast Go.Proofs.YtljompndopfflaaW.PrintMore
attribute [local go_sem] max2_int min2_int max_two min_two max_three min_three max_four min_four   -- for this text's walks alone
set_option linter.unusedVariables false
set_option linter.unusedSimpArgs false

/-! ### zoneinfolaw03_SizesExact: function 4 -/
def zoneinfolaw03_SizesExact.j0 : Nat → Int → Int → Int → Int → Bool → Int → Bool → Bool → Option (Bool)
  | 0, _, _, _, _, _, _, _, _ => none
  | k + 1, x0, x1, x2, x7, x8, x11, x12, x62 => if x62 = true then (some false) else (if x8 = true then (if x7 > x2 then (some false) else (if x7 < x0 then (some false) else (if (IntKind.u64.wrap (x7 - x0)) = x1 then (if x12 = true then (if x11 ≤ x2 then (if x0 = 0 then (if x11 = 0 then (some true) else (some false)) else (if (IntKind.u64.wrap (Int.tdiv x11 x0)) = x1 then (if (Int.tmod x11 x0) = 0 then (some true) else (some false)) else (some false))) else (some false)) else (if x11 = 0 then (if x0 = 0 then (some false) else (some (decide (x1 > (IntKind.u64.wrap (Int.tdiv x2 x0)))))) else (some false))) else (some false)))) else (if x7 = 0 then (if (IntKind.u64.wrap (x0 + x1)) ≥ x0 then (if (IntKind.u64.wrap (x0 + x1)) ≤ x2 then (some false) else (if x12 = true then (if x11 ≤ x2 then (if x0 = 0 then (if x11 = 0 then (some true) else (some false)) else (if (IntKind.u64.wrap (Int.tdiv x11 x0)) = x1 then (if (Int.tmod x11 x0) = 0 then (some true) else (some false)) else (some false))) else (some false)) else (if x11 = 0 then (if x0 = 0 then (some false) else (some (decide (x1 > (IntKind.u64.wrap (Int.tdiv x2 x0)))))) else (some false)))) else (if x12 = true then (if x11 ≤ x2 then (if x0 = 0 then (if x11 = 0 then (some true) else (some false)) else (if (IntKind.u64.wrap (Int.tdiv x11 x0)) = x1 then (if (Int.tmod x11 x0) = 0 then (some true) else (some false)) else (some false))) else (some false)) else (if x11 = 0 then (if x0 = 0 then (some false) else (some (decide (x1 > (IntKind.u64.wrap (Int.tdiv x2 x0)))))) else (some false)))) else (some false)))
def zoneinfolaw03_SizesExact.f (k : Nat) (a0 : Int) (a1 : Int) (a2 : Int) : Option (Bool) := (zoneinfolaw03_awake.f k).bind fun t155 => (if t155 = true then ((sizes_Add.f a0 a1 a2).bind fun bt156 => ((sizes_Add.f a1 a0 a2).bind fun bt158 => ((sizes_Mul.f a0 a1 a2).bind fun bt160 => ((sizes_Mul.f a1 a0 a2).bind fun bt162 => (if bt156.1 = bt158.1 then (if (bt156.2 != bt158.2) = true then (zoneinfolaw03_SizesExact.j0 k a0 a1 a2 bt156.1 bt156.2 bt160.1 bt160.2 true) else (if bt160.1 = bt162.1 then (zoneinfolaw03_SizesExact.j0 k a0 a1 a2 bt156.1 bt156.2 bt160.1 bt160.2 (bt160.2 != bt162.2)) else (zoneinfolaw03_SizesExact.j0 k a0 a1 a2 bt156.1 bt156.2 bt160.1 bt160.2 true))) else (zoneinfolaw03_SizesExact.j0 k a0 a1 a2 bt156.1 bt156.2 bt160.1 bt160.2 true)))))) else (some false))
theorem zoneinfolaw03_SizesExact.mono_l : ∀ k, (∀ y0 y1 y2 y3 y4 y5 y6 y7, LeO (zoneinfolaw03_SizesExact.j0 k y0 y1 y2 y3 y4 y5 y6 y7) (zoneinfolaw03_SizesExact.j0 (k + 1) y0 y1 y2 y3 y4 y5 y6 y7))
  | 0 => fun _ _ _ _ _ _ _ _ r h => by simp [zoneinfolaw03_SizesExact.j0] at h
  | k + 1 => by
    have ih0 := zoneinfolaw03_SizesExact.mono_l k
    · intro y0 y1 y2 y3 y4 y5 y6 y7
      unfold zoneinfolaw03_SizesExact.j0
      repeat' first
      | (with_reducible exact ih0 _ _ _ _ _ _ _ _)
      | (with_reducible exact zoneinfolaw03_awake.mono _)
      | (with_reducible exact LeO.refl _)
      | (with_reducible exact LeO.none _)
      | (with_reducible refine LeO.ite ?_ ?_)
      | (with_reducible refine LeO.bind ?_ (fun _ => ?_))
      | exact ih0 _ _ _ _ _ _ _ _
      | exact zoneinfolaw03_awake.mono _
      | exact LeO.none _
      | refine LeO.ite ?_ ?_
      | refine LeO.bind ?_ (fun _ => ?_)
theorem zoneinfolaw03_SizesExact.mono : ∀ a0 a1 a2 k, LeO (zoneinfolaw03_SizesExact.f k a0 a1 a2) (zoneinfolaw03_SizesExact.f (k + 1) a0 a1 a2) := by
  intro a0 a1 a2 k
  have ih0 := zoneinfolaw03_SizesExact.mono_l k
  unfold zoneinfolaw03_SizesExact.f
  repeat' first
      | (with_reducible exact ih0 _ _ _ _ _ _ _ _)
      | (with_reducible exact zoneinfolaw03_awake.mono _)
      | (with_reducible exact LeO.refl _)
      | (with_reducible exact LeO.none _)
      | (with_reducible refine LeO.ite ?_ ?_)
      | (with_reducible refine LeO.bind ?_ (fun _ => ?_))
      | exact ih0 _ _ _ _ _ _ _ _
      | exact zoneinfolaw03_awake.mono _
      | exact LeO.none _
      | refine LeO.ite ?_ ?_
      | refine LeO.bind ?_ (fun _ => ?_)
set_option maxHeartbeats 8000000 in
set_option maxRecDepth 100000 in
theorem zoneinfolaw03_SizesExact.calls (k : Nat) (a0 : Int) (a1 : Int) (a2 : Int) (r : Bool) (w : World) (h : zoneinfolaw03_SizesExact.f k a0 a1 a2 = some r) :
    Calls Try.prog 4 #[.int .u64 a0, .int .u64 a1, .int .u64 a2] w fun e w' => e = .returned (.bool r) ∧ Below w.heap.size w w' := by
  have HB := Aside0.mk (Below.refl w.heap.size w)
  have H : ((zoneinfolaw03_awake.f k).bind fun t155 => (if t155 = true then ((sizes_Add.f a0 a1 a2).bind fun bt156 => ((sizes_Add.f a1 a0 a2).bind fun bt158 => ((sizes_Mul.f a0 a1 a2).bind fun bt160 => ((sizes_Mul.f a1 a0 a2).bind fun bt162 => (if bt156.1 = bt158.1 then (if (bt156.2 != bt158.2) = true then (zoneinfolaw03_SizesExact.j0 k a0 a1 a2 bt156.1 bt156.2 bt160.1 bt160.2 true) else (if bt160.1 = bt162.1 then (zoneinfolaw03_SizesExact.j0 k a0 a1 a2 bt156.1 bt156.2 bt160.1 bt160.2 (bt160.2 != bt162.2)) else (zoneinfolaw03_SizesExact.j0 k a0 a1 a2 bt156.1 bt156.2 bt160.1 bt160.2 true))) else (zoneinfolaw03_SizesExact.j0 k a0 a1 a2 bt156.1 bt156.2 bt160.1 bt160.2 true)))))) else (some false))) = some r := h
  clear h
  replace H := Option.bind_eq_some_iff.mp H
  obtain ⟨t155, A40, H⟩ := H
  replace H : (if t155 = true then ((sizes_Add.f a0 a1 a2).bind fun bt156 => ((sizes_Add.f a1 a0 a2).bind fun bt158 => ((sizes_Mul.f a0 a1 a2).bind fun bt160 => ((sizes_Mul.f a1 a0 a2).bind fun bt162 => (if bt156.1 = bt158.1 then (if (bt156.2 != bt158.2) = true then (zoneinfolaw03_SizesExact.j0 k a0 a1 a2 bt156.1 bt156.2 bt160.1 bt160.2 true) else (if bt160.1 = bt162.1 then (zoneinfolaw03_SizesExact.j0 k a0 a1 a2 bt156.1 bt156.2 bt160.1 bt160.2 (bt160.2 != bt162.2)) else (zoneinfolaw03_SizesExact.j0 k a0 a1 a2 bt156.1 bt156.2 bt160.1 bt160.2 true))) else (zoneinfolaw03_SizesExact.j0 k a0 a1 a2 bt156.1 bt156.2 bt160.1 bt160.2 true)))))) else (some false)) = some r := H
  have A4 := Aside0.mk A40
  clear A40
  by_cases c5 : t155 = true
  · subst c5
    have H1 : ((sizes_Add.f a0 a1 a2).bind fun bt156 => ((sizes_Add.f a1 a0 a2).bind fun bt158 => ((sizes_Mul.f a0 a1 a2).bind fun bt160 => ((sizes_Mul.f a1 a0 a2).bind fun bt162 => (if bt156.1 = bt158.1 then (if (bt156.2 != bt158.2) = true then (zoneinfolaw03_SizesExact.j0 k a0 a1 a2 bt156.1 bt156.2 bt160.1 bt160.2 true) else (if bt160.1 = bt162.1 then (zoneinfolaw03_SizesExact.j0 k a0 a1 a2 bt156.1 bt156.2 bt160.1 bt160.2 (bt160.2 != bt162.2)) else (zoneinfolaw03_SizesExact.j0 k a0 a1 a2 bt156.1 bt156.2 bt160.1 bt160.2 true))) else (zoneinfolaw03_SizesExact.j0 k a0 a1 a2 bt156.1 bt156.2 bt160.1 bt160.2 true)))))) = some r := by rw [if_pos rfl] at H; exact H
    clear H
    have H := H1
    clear H1
    replace H := Option.bind_eq_some_iff.mp H
    obtain ⟨⟨t156, t157⟩, A60, H⟩ := H
    replace H : ((sizes_Add.f a1 a0 a2).bind fun bt158 => ((sizes_Mul.f a0 a1 a2).bind fun bt160 => ((sizes_Mul.f a1 a0 a2).bind fun bt162 => (if t156 = bt158.1 then (if (t157 != bt158.2) = true then (zoneinfolaw03_SizesExact.j0 k a0 a1 a2 t156 t157 bt160.1 bt160.2 true) else (if bt160.1 = bt162.1 then (zoneinfolaw03_SizesExact.j0 k a0 a1 a2 t156 t157 bt160.1 bt160.2 (bt160.2 != bt162.2)) else (zoneinfolaw03_SizesExact.j0 k a0 a1 a2 t156 t157 bt160.1 bt160.2 true))) else (zoneinfolaw03_SizesExact.j0 k a0 a1 a2 t156 t157 bt160.1 bt160.2 true))))) = some r := H
    have A6 := Aside0.mk A60
    clear A60
    replace H := Option.bind_eq_some_iff.mp H
    obtain ⟨⟨t158, t159⟩, A70, H⟩ := H
    replace H : ((sizes_Mul.f a0 a1 a2).bind fun bt160 => ((sizes_Mul.f a1 a0 a2).bind fun bt162 => (if t156 = t158 then (if (t157 != t159) = true then (zoneinfolaw03_SizesExact.j0 k a0 a1 a2 t156 t157 bt160.1 bt160.2 true) else (if bt160.1 = bt162.1 then (zoneinfolaw03_SizesExact.j0 k a0 a1 a2 t156 t157 bt160.1 bt160.2 (bt160.2 != bt162.2)) else (zoneinfolaw03_SizesExact.j0 k a0 a1 a2 t156 t157 bt160.1 bt160.2 true))) else (zoneinfolaw03_SizesExact.j0 k a0 a1 a2 t156 t157 bt160.1 bt160.2 true)))) = some r := H
    have A7 := Aside0.mk A70
    clear A70
    replace H := Option.bind_eq_some_iff.mp H
    obtain ⟨⟨t160, t161⟩, A80, H⟩ := H
    replace H : ((sizes_Mul.f a1 a0 a2).bind fun bt162 => (if t156 = t158 then (if (t157 != t159) = true then (zoneinfolaw03_SizesExact.j0 k a0 a1 a2 t156 t157 t160 t161 true) else (if t160 = bt162.1 then (zoneinfolaw03_SizesExact.j0 k a0 a1 a2 t156 t157 t160 t161 (t161 != bt162.2)) else (zoneinfolaw03_SizesExact.j0 k a0 a1 a2 t156 t157 t160 t161 true))) else (zoneinfolaw03_SizesExact.j0 k a0 a1 a2 t156 t157 t160 t161 true))) = some r := H
    have A8 := Aside0.mk A80
    clear A80
    replace H := Option.bind_eq_some_iff.mp H
    obtain ⟨⟨t162, t163⟩, A90, H⟩ := H
    replace H : (if t156 = t158 then (if (t157 != t159) = true then (zoneinfolaw03_SizesExact.j0 k a0 a1 a2 t156 t157 t160 t161 true) else (if t160 = t162 then (zoneinfolaw03_SizesExact.j0 k a0 a1 a2 t156 t157 t160 t161 (t161 != t163)) else (zoneinfolaw03_SizesExact.j0 k a0 a1 a2 t156 t157 t160 t161 true))) else (zoneinfolaw03_SizesExact.j0 k a0 a1 a2 t156 t157 t160 t161 true)) = some r := H
    have A9 := Aside0.mk A90
    clear A90
    have HC10 := Aside0.mk H
    clear H
    go_enter Try.func4, Try.ntmps4
    go_upto_region 7 with (first | ((with_reducible refine gate_callee (f := 8) rfl ?_); refine goesL_ (some 15) rfl rfl Try.func8 (by kernel_rfl) rfl #[] rfl (by (try simp only [List.map_toArray, List.map_cons, List.map_nil]); first | done | rfl | (simp only [List.length_drop, List.length_take]; rfl)) ?_; (with_reducible refine (zoneinfolaw03_awake.calls k  true _ A4.out).mono ?_); rintro e w11 ⟨rfl, hb⟩; refine ⟨_, rfl, ?_⟩; have n0_ := Aside0.mk (below_step (by repeat (first | (with_reducible first | exact HB.out | apply below_alloc | apply pw_below_drewN | apply below_drew1) | exact HB.out)) hb); clear HB; have HB := n0_; clear n0_; (try clear hb); (try clear hb2); (try clear hk); (try clear hi)) | ((with_reducible refine gate_callee (f := 9) rfl ?_); refine goesL_ (some 21) rfl rfl Try.func9 (by kernel_rfl) rfl #[.int .u64 a0, .int .u64 a1, .int .u64 a2] rfl (by (try simp only [List.map_toArray, List.map_cons, List.map_nil]); first | done | rfl | (simp only [List.length_drop, List.length_take]; rfl)) ?_; (with_reducible refine (sizes_Add.calls a0 a1 a2 t156 t157 _ A6.out).mono ?_); rintro e w' ⟨rfl, ⟨nd, rfl⟩⟩; refine ⟨_, rfl, ?_⟩) | ((with_reducible refine gate_callee (f := 9) rfl ?_); refine goesL_ (some 28) rfl rfl Try.func9 (by kernel_rfl) rfl #[.int .u64 a1, .int .u64 a0, .int .u64 a2] rfl (by (try simp only [List.map_toArray, List.map_cons, List.map_nil]); first | done | rfl | (simp only [List.length_drop, List.length_take]; rfl)) ?_; (with_reducible refine (sizes_Add.calls a1 a0 a2 t158 t159 _ A7.out).mono ?_); rintro e w' ⟨rfl, ⟨nd, rfl⟩⟩; refine ⟨_, rfl, ?_⟩) | ((with_reducible refine gate_callee (f := 11) rfl ?_); refine goesL_ (some 35) rfl rfl Try.func11 (by kernel_rfl) rfl #[.int .u64 a0, .int .u64 a1, .int .u64 a2] rfl (by (try simp only [List.map_toArray, List.map_cons, List.map_nil]); first | done | rfl | (simp only [List.length_drop, List.length_take]; rfl)) ?_; (with_reducible refine (sizes_Mul.calls a0 a1 a2 t160 t161 _ A8.out).mono ?_); rintro e w' ⟨rfl, ⟨nd, rfl⟩⟩; refine ⟨_, rfl, ?_⟩) | ((with_reducible refine gate_callee (f := 11) rfl ?_); refine goesL_ (some 42) rfl rfl Try.func11 (by kernel_rfl) rfl #[.int .u64 a1, .int .u64 a0, .int .u64 a2] rfl (by (try simp only [List.map_toArray, List.map_cons, List.map_nil]); first | done | rfl | (simp only [List.length_drop, List.length_take]; rfl)) ?_; (with_reducible refine (sizes_Mul.calls a1 a0 a2 t162 t163 _ A9.out).mono ?_); rintro e w' ⟨rfl, ⟨nd, rfl⟩⟩; refine ⟨_, rfl, ?_⟩))
    (try simp only [Act.put, List.setIfInBounds_toArray, List.set_cons_zero, List.set_cons_succ])
    go_cut [62] (fun v62 wc => ∃ (kq : Nat) (x62_9 : Bool), v62 = .bool x62_9 ∧ Aside0 (zoneinfolaw03_SizesExact.j0 kq a0 a1 a2 t156 t157 t160 t161 x62_9 = some r) ∧ Aside0 (kq ≤ k) ∧ Aside0 (Below w.heap.size w wc))
    case first =>
      have H := HC10.out
      clear HC10
      by_cases c12 : t156 = t158
      · rw [if_pos c12] at H
        have c12b0 : (t156 == t158) = true := beq_iff_eq.mpr c12
        have c12b1 : (t156 != t158) = false := bne_eq_false_iff_eq.mpr c12
        clear c12
        (first | rw [c12b0] | (simp only [i64_w, i32_w]; rw [c12b0]) | skip)
        by_cases c13 : (t157 != t159) = true
        · rw [if_pos c13] at H
          have c13b0 : (t157 != t159) = true := c13
          (try (have c13b1 : decide (t157 = t159) = false := by simpa using c13))
          (try (have c13b2 : (t157 == t159) = false := by simpa using c13))
          (try (have c13b3 : ¬ (t157 = t159) := by simpa using c13))
          clear c13
          have H' := Aside0.mk H
          clear H
          go_wp2
          go_meet
          case rel => exact ⟨_, (true), (by first | rfl | (simp; done) | (simp [*]; done)), H', ⟨by first | omega | exact Nat.le_refl _⟩, ⟨by repeat (first | (with_reducible first | exact HB.out | apply below_alloc | apply pw_below_drewN | apply below_drew1) | exact HB.out)⟩⟩
        · rw [if_neg c13] at H
          have c13b0 : (t157 != t159) = false := by simpa using c13
          (try (have c13b1 : decide (t157 = t159) = true := by simpa using c13))
          (try (have c13b2 : (t157 == t159) = true := by simpa using c13))
          clear c13
          by_cases c14 : t160 = t162
          · rw [if_pos c14] at H
            have c14b0 : (t160 == t162) = true := beq_iff_eq.mpr c14
            have c14b1 : (t160 != t162) = false := bne_eq_false_iff_eq.mpr c14
            clear c14
            have H' := Aside0.mk H
            clear H
            go_wp2
            go_meet
            case rel => exact ⟨_, ((t161 != t163)), (by first | rfl | (simp; done) | (simp [*]; done)), H', ⟨by first | omega | exact Nat.le_refl _⟩, ⟨by repeat (first | (with_reducible first | exact HB.out | apply below_alloc | apply pw_below_drewN | apply below_drew1) | exact HB.out)⟩⟩
          · rw [if_neg c14] at H
            have c14b0 : (t160 == t162) = false := beq_eq_false_iff_ne.mpr c14
            have c14b1 : (t160 != t162) = true := bne_iff_ne.mpr c14
            have H' := Aside0.mk H
            clear H
            go_wp2
            go_meet
            case rel => exact ⟨_, (true), (by first | rfl | (simp; done) | (simp [*]; done)), H', ⟨by first | omega | exact Nat.le_refl _⟩, ⟨by repeat (first | (with_reducible first | exact HB.out | apply below_alloc | apply pw_below_drewN | apply below_drew1) | exact HB.out)⟩⟩
      · rw [if_neg c12] at H
        have c12b0 : (t156 == t158) = false := beq_eq_false_iff_ne.mpr c12
        have c12b1 : (t156 != t158) = true := bne_iff_ne.mpr c12
        (first | rw [c12b0] | (simp only [i64_w, i32_w]; rw [c12b0]) | skip)
        have H' := Aside0.mk H
        clear H
        go_wp2
        go_meet
        case rel => exact ⟨_, (true), (by first | rfl | (simp; done) | (simp [*]; done)), H', ⟨by first | omega | exact Nat.le_refl _⟩, ⟨by repeat (first | (with_reducible first | exact HB.out | apply below_alloc | apply pw_below_drewN | apply below_drew1) | exact HB.out)⟩⟩
    case rest =>
      clear HC10
      try clear c1
      try clear p2
      try clear c4
      try clear c5
      try clear c8
      try clear c9
      try clear c11
      try clear c12
      try clear c12b0
      try clear c12b1
      try clear c13
      try clear c13b0
      try clear c13b1
      try clear c13b2
      try clear c14
      try clear c14b0
      try clear c14b1
      obtain ⟨kq, x62_9, rfl, HA, HJ9, HB⟩ := hcut
      cases kq with
      | zero => exact absurd HA.out (by simp [zoneinfolaw03_SizesExact.j0])
      | succ kj9 =>
        have H := HA.out
        clear HA
        simp only [zoneinfolaw03_SizesExact.j0] at H
        by_cases c15 : x62_9 = true
        · subst c15
          have H1 : (some false) = some r := by rw [if_pos rfl] at H; exact H
          clear H
          have H := H1
          clear H1
          obtain rfl := Option.some.inj H
          go_wp2
          go_ret
          exact ⟨by first | rfl | (simp [errW_none, errW_some] <;> rfl) | (simp [*, errW_none, errW_some] <;> rfl), by repeat (first | (with_reducible first | exact HB.out | apply below_alloc | apply pw_below_drewN | apply below_drew1) | exact HB.out)⟩
        · replace c15 := Bool.eq_false_iff.mpr c15
          subst c15
          have H1 : (if t157 = true then (if t156 > a2 then (some false) else (if t156 < a0 then (some false) else (if (IntKind.u64.wrap (t156 - a0)) = a1 then (if t161 = true then (if t160 ≤ a2 then (if a0 = 0 then (if t160 = 0 then (some true) else (some false)) else (if (IntKind.u64.wrap (Int.tdiv t160 a0)) = a1 then (if (Int.tmod t160 a0) = 0 then (some true) else (some false)) else (some false))) else (some false)) else (if t160 = 0 then (if a0 = 0 then (some false) else (some (decide (a1 > (IntKind.u64.wrap (Int.tdiv a2 a0)))))) else (some false))) else (some false)))) else (if t156 = 0 then (if (IntKind.u64.wrap (a0 + a1)) ≥ a0 then (if (IntKind.u64.wrap (a0 + a1)) ≤ a2 then (some false) else (if t161 = true then (if t160 ≤ a2 then (if a0 = 0 then (if t160 = 0 then (some true) else (some false)) else (if (IntKind.u64.wrap (Int.tdiv t160 a0)) = a1 then (if (Int.tmod t160 a0) = 0 then (some true) else (some false)) else (some false))) else (some false)) else (if t160 = 0 then (if a0 = 0 then (some false) else (some (decide (a1 > (IntKind.u64.wrap (Int.tdiv a2 a0)))))) else (some false)))) else (if t161 = true then (if t160 ≤ a2 then (if a0 = 0 then (if t160 = 0 then (some true) else (some false)) else (if (IntKind.u64.wrap (Int.tdiv t160 a0)) = a1 then (if (Int.tmod t160 a0) = 0 then (some true) else (some false)) else (some false))) else (some false)) else (if t160 = 0 then (if a0 = 0 then (some false) else (some (decide (a1 > (IntKind.u64.wrap (Int.tdiv a2 a0)))))) else (some false)))) else (some false))) = some r := by rw [if_neg (show ¬ (false = true) by decide)] at H; exact H
          clear H
          have H := H1
          clear H1
          by_cases c16 : t157 = true
          · subst c16
            have H1 : (if t156 > a2 then (some false) else (if t156 < a0 then (some false) else (if (IntKind.u64.wrap (t156 - a0)) = a1 then (if t161 = true then (if t160 ≤ a2 then (if a0 = 0 then (if t160 = 0 then (some true) else (some false)) else (if (IntKind.u64.wrap (Int.tdiv t160 a0)) = a1 then (if (Int.tmod t160 a0) = 0 then (some true) else (some false)) else (some false))) else (some false)) else (if t160 = 0 then (if a0 = 0 then (some false) else (some (decide (a1 > (IntKind.u64.wrap (Int.tdiv a2 a0)))))) else (some false))) else (some false)))) = some r := by rw [if_pos rfl] at H; exact H
            clear H
            have H := H1
            clear H1
            by_cases c17 : t156 > a2
            · rw [if_pos c17] at H
              have c17b0 : decide (a2 < t156) = true := decide_eq_true c17
              clear c17
              obtain rfl := Option.some.inj H
              go_wp2
              go_ret
              exact ⟨by first | rfl | (simp [errW_none, errW_some] <;> rfl) | (simp [*, errW_none, errW_some] <;> rfl), by repeat (first | (with_reducible first | exact HB.out | apply below_alloc | apply pw_below_drewN | apply below_drew1) | exact HB.out)⟩
            · rw [if_neg c17] at H
              have c17b0 : decide (a2 < t156) = false := decide_eq_false c17
              clear c17
              by_cases c18 : t156 < a0
              · rw [if_pos c18] at H
                have c18b0 : decide (t156 < a0) = true := decide_eq_true c18
                clear c18
                obtain rfl := Option.some.inj H
                go_wp2
                go_ret
                exact ⟨by first | rfl | (simp [errW_none, errW_some] <;> rfl) | (simp [*, errW_none, errW_some] <;> rfl), by repeat (first | (with_reducible first | exact HB.out | apply below_alloc | apply pw_below_drewN | apply below_drew1) | exact HB.out)⟩
              · rw [if_neg c18] at H
                have c18b0 : decide (t156 < a0) = false := decide_eq_false c18
                clear c18
                by_cases c19 : (IntKind.u64.wrap (t156 - a0)) = a1
                · rw [if_pos c19] at H
                  have c19b0 : ((IntKind.u64.wrap (t156 - a0)) == a1) = true := beq_iff_eq.mpr c19
                  have c19b1 : ((IntKind.u64.wrap (t156 - a0)) != a1) = false := bne_eq_false_iff_eq.mpr c19
                  clear c19
                  by_cases c20 : t161 = true
                  · subst c20
                    have H1 : (if t160 ≤ a2 then (if a0 = 0 then (if t160 = 0 then (some true) else (some false)) else (if (IntKind.u64.wrap (Int.tdiv t160 a0)) = a1 then (if (Int.tmod t160 a0) = 0 then (some true) else (some false)) else (some false))) else (some false)) = some r := by rw [if_pos rfl] at H; exact H
                    clear H
                    have H := H1
                    clear H1
                    by_cases c21 : t160 ≤ a2
                    · rw [if_pos c21] at H
                      have c21b0 : decide (t160 ≤ a2) = true := decide_eq_true c21
                      clear c21
                      by_cases c22 : a0 = 0
                      · rw [if_pos c22] at H
                        have c22b0 : (a0 == 0) = true := beq_iff_eq.mpr c22
                        have c22b1 : (a0 != 0) = false := bne_eq_false_iff_eq.mpr c22
                        clear c22
                        by_cases c23 : t160 = 0
                        · rw [if_pos c23] at H
                          have c23b0 : (t160 == 0) = true := beq_iff_eq.mpr c23
                          have c23b1 : (t160 != 0) = false := bne_eq_false_iff_eq.mpr c23
                          clear c23
                          obtain rfl := Option.some.inj H
                          go_wp2
                          go_ret
                          exact ⟨by first | rfl | (simp [errW_none, errW_some] <;> rfl) | (simp [*, errW_none, errW_some] <;> rfl), by repeat (first | (with_reducible first | exact HB.out | apply below_alloc | apply pw_below_drewN | apply below_drew1) | exact HB.out)⟩
                        · rw [if_neg c23] at H
                          have c23b0 : (t160 == 0) = false := beq_eq_false_iff_ne.mpr c23
                          have c23b1 : (t160 != 0) = true := bne_iff_ne.mpr c23
                          obtain rfl := Option.some.inj H
                          go_wp2
                          go_ret
                          exact ⟨by first | rfl | (simp [errW_none, errW_some] <;> rfl) | (simp [*, errW_none, errW_some] <;> rfl), by repeat (first | (with_reducible first | exact HB.out | apply below_alloc | apply pw_below_drewN | apply below_drew1) | exact HB.out)⟩
                      · rw [if_neg c22] at H
                        have c22b0 : (a0 == 0) = false := beq_eq_false_iff_ne.mpr c22
                        have c22b1 : (a0 != 0) = true := bne_iff_ne.mpr c22
                        by_cases c24 : (IntKind.u64.wrap (Int.tdiv t160 a0)) = a1
                        · rw [if_pos c24] at H
                          have c24b0 : ((IntKind.u64.wrap (Int.tdiv t160 a0)) == a1) = true := beq_iff_eq.mpr c24
                          have c24b1 : ((IntKind.u64.wrap (Int.tdiv t160 a0)) != a1) = false := bne_eq_false_iff_eq.mpr c24
                          clear c24
                          by_cases c25 : (Int.tmod t160 a0) = 0
                          · rw [if_pos c25] at H
                            have c25b0 : ((Int.tmod t160 a0) == 0) = true := beq_iff_eq.mpr c25
                            have c25b1 : ((Int.tmod t160 a0) != 0) = false := bne_eq_false_iff_eq.mpr c25
                            clear c25
                            obtain rfl := Option.some.inj H
                            go_wp2
                            go_ret
                            exact ⟨by first | rfl | (simp [errW_none, errW_some] <;> rfl) | (simp [*, errW_none, errW_some] <;> rfl), by repeat (first | (with_reducible first | exact HB.out | apply below_alloc | apply pw_below_drewN | apply below_drew1) | exact HB.out)⟩
                          · rw [if_neg c25] at H
                            have c25b0 : ((Int.tmod t160 a0) == 0) = false := beq_eq_false_iff_ne.mpr c25
                            have c25b1 : ((Int.tmod t160 a0) != 0) = true := bne_iff_ne.mpr c25
                            obtain rfl := Option.some.inj H
                            go_wp2
                            go_ret
                            exact ⟨by first | rfl | (simp [errW_none, errW_some] <;> rfl) | (simp [*, errW_none, errW_some] <;> rfl), by repeat (first | (with_reducible first | exact HB.out | apply below_alloc | apply pw_below_drewN | apply below_drew1) | exact HB.out)⟩
                        · rw [if_neg c24] at H
                          have c24b0 : ((IntKind.u64.wrap (Int.tdiv t160 a0)) == a1) = false := beq_eq_false_iff_ne.mpr c24
                          have c24b1 : ((IntKind.u64.wrap (Int.tdiv t160 a0)) != a1) = true := bne_iff_ne.mpr c24
                          obtain rfl := Option.some.inj H
                          go_wp2
                          go_ret
                          exact ⟨by first | rfl | (simp [errW_none, errW_some] <;> rfl) | (simp [*, errW_none, errW_some] <;> rfl), by repeat (first | (with_reducible first | exact HB.out | apply below_alloc | apply pw_below_drewN | apply below_drew1) | exact HB.out)⟩
                    · rw [if_neg c21] at H
                      have c21b0 : decide (t160 ≤ a2) = false := decide_eq_false c21
                      clear c21
                      obtain rfl := Option.some.inj H
                      go_wp2
                      go_ret
                      exact ⟨by first | rfl | (simp [errW_none, errW_some] <;> rfl) | (simp [*, errW_none, errW_some] <;> rfl), by repeat (first | (with_reducible first | exact HB.out | apply below_alloc | apply pw_below_drewN | apply below_drew1) | exact HB.out)⟩
                  · replace c20 := Bool.eq_false_iff.mpr c20
                    subst c20
                    have H1 : (if t160 = 0 then (if a0 = 0 then (some false) else (some (decide (a1 > (IntKind.u64.wrap (Int.tdiv a2 a0)))))) else (some false)) = some r := by rw [if_neg (show ¬ (false = true) by decide)] at H; exact H
                    clear H
                    have H := H1
                    clear H1
                    by_cases c26 : t160 = 0
                    · rw [if_pos c26] at H
                      have c26b0 : (t160 == 0) = true := beq_iff_eq.mpr c26
                      have c26b1 : (t160 != 0) = false := bne_eq_false_iff_eq.mpr c26
                      clear c26
                      by_cases c27 : a0 = 0
                      · rw [if_pos c27] at H
                        have c27b0 : (a0 == 0) = true := beq_iff_eq.mpr c27
                        have c27b1 : (a0 != 0) = false := bne_eq_false_iff_eq.mpr c27
                        clear c27
                        obtain rfl := Option.some.inj H
                        go_wp2
                        go_ret
                        exact ⟨by first | rfl | (simp [errW_none, errW_some] <;> rfl) | (simp [*, errW_none, errW_some] <;> rfl), by repeat (first | (with_reducible first | exact HB.out | apply below_alloc | apply pw_below_drewN | apply below_drew1) | exact HB.out)⟩
                      · rw [if_neg c27] at H
                        have c27b0 : (a0 == 0) = false := beq_eq_false_iff_ne.mpr c27
                        have c27b1 : (a0 != 0) = true := bne_iff_ne.mpr c27
                        obtain rfl := Option.some.inj H
                        go_wp2
                        go_ret
                        exact ⟨by first | rfl | (simp [errW_none, errW_some] <;> rfl) | (simp [*, errW_none, errW_some] <;> rfl), by repeat (first | (with_reducible first | exact HB.out | apply below_alloc | apply pw_below_drewN | apply below_drew1) | exact HB.out)⟩
                    · rw [if_neg c26] at H
                      have c26b0 : (t160 == 0) = false := beq_eq_false_iff_ne.mpr c26
                      have c26b1 : (t160 != 0) = true := bne_iff_ne.mpr c26
                      obtain rfl := Option.some.inj H
                      go_wp2
                      go_ret
                      exact ⟨by first | rfl | (simp [errW_none, errW_some] <;> rfl) | (simp [*, errW_none, errW_some] <;> rfl), by repeat (first | (with_reducible first | exact HB.out | apply below_alloc | apply pw_below_drewN | apply below_drew1) | exact HB.out)⟩
                · rw [if_neg c19] at H
                  have c19b0 : ((IntKind.u64.wrap (t156 - a0)) == a1) = false := beq_eq_false_iff_ne.mpr c19
                  have c19b1 : ((IntKind.u64.wrap (t156 - a0)) != a1) = true := bne_iff_ne.mpr c19
                  obtain rfl := Option.some.inj H
                  go_wp2
                  go_ret
                  exact ⟨by first | rfl | (simp [errW_none, errW_some] <;> rfl) | (simp [*, errW_none, errW_some] <;> rfl), by repeat (first | (with_reducible first | exact HB.out | apply below_alloc | apply pw_below_drewN | apply below_drew1) | exact HB.out)⟩
          · replace c16 := Bool.eq_false_iff.mpr c16
            subst c16
            have H1 : (if t156 = 0 then (if (IntKind.u64.wrap (a0 + a1)) ≥ a0 then (if (IntKind.u64.wrap (a0 + a1)) ≤ a2 then (some false) else (if t161 = true then (if t160 ≤ a2 then (if a0 = 0 then (if t160 = 0 then (some true) else (some false)) else (if (IntKind.u64.wrap (Int.tdiv t160 a0)) = a1 then (if (Int.tmod t160 a0) = 0 then (some true) else (some false)) else (some false))) else (some false)) else (if t160 = 0 then (if a0 = 0 then (some false) else (some (decide (a1 > (IntKind.u64.wrap (Int.tdiv a2 a0)))))) else (some false)))) else (if t161 = true then (if t160 ≤ a2 then (if a0 = 0 then (if t160 = 0 then (some true) else (some false)) else (if (IntKind.u64.wrap (Int.tdiv t160 a0)) = a1 then (if (Int.tmod t160 a0) = 0 then (some true) else (some false)) else (some false))) else (some false)) else (if t160 = 0 then (if a0 = 0 then (some false) else (some (decide (a1 > (IntKind.u64.wrap (Int.tdiv a2 a0)))))) else (some false)))) else (some false)) = some r := by rw [if_neg (show ¬ (false = true) by decide)] at H; exact H
            clear H
            have H := H1
            clear H1
            by_cases c28 : t156 = 0
            · rw [if_pos c28] at H
              have c28b0 : (t156 == 0) = true := beq_iff_eq.mpr c28
              have c28b1 : (t156 != 0) = false := bne_eq_false_iff_eq.mpr c28
              clear c28
              by_cases c29 : (IntKind.u64.wrap (a0 + a1)) ≥ a0
              · rw [if_pos c29] at H
                have c29b0 : decide (a0 ≤ (IntKind.u64.wrap (a0 + a1))) = true := decide_eq_true c29
                clear c29
                by_cases c30 : (IntKind.u64.wrap (a0 + a1)) ≤ a2
                · rw [if_pos c30] at H
                  have c30b0 : decide ((IntKind.u64.wrap (a0 + a1)) ≤ a2) = true := decide_eq_true c30
                  clear c30
                  obtain rfl := Option.some.inj H
                  go_wp2
                  go_ret
                  exact ⟨by first | rfl | (simp [errW_none, errW_some] <;> rfl) | (simp [*, errW_none, errW_some] <;> rfl), by repeat (first | (with_reducible first | exact HB.out | apply below_alloc | apply pw_below_drewN | apply below_drew1) | exact HB.out)⟩
                · rw [if_neg c30] at H
                  have c30b0 : decide ((IntKind.u64.wrap (a0 + a1)) ≤ a2) = false := decide_eq_false c30
                  clear c30
                  by_cases c31 : t161 = true
                  · subst c31
                    have H1 : (if t160 ≤ a2 then (if a0 = 0 then (if t160 = 0 then (some true) else (some false)) else (if (IntKind.u64.wrap (Int.tdiv t160 a0)) = a1 then (if (Int.tmod t160 a0) = 0 then (some true) else (some false)) else (some false))) else (some false)) = some r := by rw [if_pos rfl] at H; exact H
                    clear H
                    have H := H1
                    clear H1
                    by_cases c32 : t160 ≤ a2
                    · rw [if_pos c32] at H
                      have c32b0 : decide (t160 ≤ a2) = true := decide_eq_true c32
                      clear c32
                      by_cases c33 : a0 = 0
                      · rw [if_pos c33] at H
                        have c33b0 : (a0 == 0) = true := beq_iff_eq.mpr c33
                        have c33b1 : (a0 != 0) = false := bne_eq_false_iff_eq.mpr c33
                        clear c33
                        by_cases c34 : t160 = 0
                        · rw [if_pos c34] at H
                          have c34b0 : (t160 == 0) = true := beq_iff_eq.mpr c34
                          have c34b1 : (t160 != 0) = false := bne_eq_false_iff_eq.mpr c34
                          clear c34
                          obtain rfl := Option.some.inj H
                          go_wp2
                          go_ret
                          exact ⟨by first | rfl | (simp [errW_none, errW_some] <;> rfl) | (simp [*, errW_none, errW_some] <;> rfl), by repeat (first | (with_reducible first | exact HB.out | apply below_alloc | apply pw_below_drewN | apply below_drew1) | exact HB.out)⟩
                        · rw [if_neg c34] at H
                          have c34b0 : (t160 == 0) = false := beq_eq_false_iff_ne.mpr c34
                          have c34b1 : (t160 != 0) = true := bne_iff_ne.mpr c34
                          obtain rfl := Option.some.inj H
                          go_wp2
                          go_ret
                          exact ⟨by first | rfl | (simp [errW_none, errW_some] <;> rfl) | (simp [*, errW_none, errW_some] <;> rfl), by repeat (first | (with_reducible first | exact HB.out | apply below_alloc | apply pw_below_drewN | apply below_drew1) | exact HB.out)⟩
                      · rw [if_neg c33] at H
                        have c33b0 : (a0 == 0) = false := beq_eq_false_iff_ne.mpr c33
                        have c33b1 : (a0 != 0) = true := bne_iff_ne.mpr c33
                        by_cases c35 : (IntKind.u64.wrap (Int.tdiv t160 a0)) = a1
                        · rw [if_pos c35] at H
                          have c35b0 : ((IntKind.u64.wrap (Int.tdiv t160 a0)) == a1) = true := beq_iff_eq.mpr c35
                          have c35b1 : ((IntKind.u64.wrap (Int.tdiv t160 a0)) != a1) = false := bne_eq_false_iff_eq.mpr c35
                          clear c35
                          by_cases c36 : (Int.tmod t160 a0) = 0
                          · rw [if_pos c36] at H
                            have c36b0 : ((Int.tmod t160 a0) == 0) = true := beq_iff_eq.mpr c36
                            have c36b1 : ((Int.tmod t160 a0) != 0) = false := bne_eq_false_iff_eq.mpr c36
                            clear c36
                            obtain rfl := Option.some.inj H
                            go_wp2
                            go_ret
                            exact ⟨by first | rfl | (simp [errW_none, errW_some] <;> rfl) | (simp [*, errW_none, errW_some] <;> rfl), by repeat (first | (with_reducible first | exact HB.out | apply below_alloc | apply pw_below_drewN | apply below_drew1) | exact HB.out)⟩
                          · rw [if_neg c36] at H
                            have c36b0 : ((Int.tmod t160 a0) == 0) = false := beq_eq_false_iff_ne.mpr c36
                            have c36b1 : ((Int.tmod t160 a0) != 0) = true := bne_iff_ne.mpr c36
                            obtain rfl := Option.some.inj H
                            go_wp2
                            go_ret
                            exact ⟨by first | rfl | (simp [errW_none, errW_some] <;> rfl) | (simp [*, errW_none, errW_some] <;> rfl), by repeat (first | (with_reducible first | exact HB.out | apply below_alloc | apply pw_below_drewN | apply below_drew1) | exact HB.out)⟩
                        · rw [if_neg c35] at H
                          have c35b0 : ((IntKind.u64.wrap (Int.tdiv t160 a0)) == a1) = false := beq_eq_false_iff_ne.mpr c35
                          have c35b1 : ((IntKind.u64.wrap (Int.tdiv t160 a0)) != a1) = true := bne_iff_ne.mpr c35
                          obtain rfl := Option.some.inj H
                          go_wp2
                          go_ret
                          exact ⟨by first | rfl | (simp [errW_none, errW_some] <;> rfl) | (simp [*, errW_none, errW_some] <;> rfl), by repeat (first | (with_reducible first | exact HB.out | apply below_alloc | apply pw_below_drewN | apply below_drew1) | exact HB.out)⟩
                    · rw [if_neg c32] at H
                      have c32b0 : decide (t160 ≤ a2) = false := decide_eq_false c32
                      clear c32
                      obtain rfl := Option.some.inj H
                      go_wp2
                      go_ret
                      exact ⟨by first | rfl | (simp [errW_none, errW_some] <;> rfl) | (simp [*, errW_none, errW_some] <;> rfl), by repeat (first | (with_reducible first | exact HB.out | apply below_alloc | apply pw_below_drewN | apply below_drew1) | exact HB.out)⟩
                  · replace c31 := Bool.eq_false_iff.mpr c31
                    subst c31
                    have H1 : (if t160 = 0 then (if a0 = 0 then (some false) else (some (decide (a1 > (IntKind.u64.wrap (Int.tdiv a2 a0)))))) else (some false)) = some r := by rw [if_neg (show ¬ (false = true) by decide)] at H; exact H
                    clear H
                    have H := H1
                    clear H1
                    by_cases c37 : t160 = 0
                    · rw [if_pos c37] at H
                      have c37b0 : (t160 == 0) = true := beq_iff_eq.mpr c37
                      have c37b1 : (t160 != 0) = false := bne_eq_false_iff_eq.mpr c37
                      clear c37
                      by_cases c38 : a0 = 0
                      · rw [if_pos c38] at H
                        have c38b0 : (a0 == 0) = true := beq_iff_eq.mpr c38
                        have c38b1 : (a0 != 0) = false := bne_eq_false_iff_eq.mpr c38
                        clear c38
                        obtain rfl := Option.some.inj H
                        go_wp2
                        go_ret
                        exact ⟨by first | rfl | (simp [errW_none, errW_some] <;> rfl) | (simp [*, errW_none, errW_some] <;> rfl), by repeat (first | (with_reducible first | exact HB.out | apply below_alloc | apply pw_below_drewN | apply below_drew1) | exact HB.out)⟩
                      · rw [if_neg c38] at H
                        have c38b0 : (a0 == 0) = false := beq_eq_false_iff_ne.mpr c38
                        have c38b1 : (a0 != 0) = true := bne_iff_ne.mpr c38
                        obtain rfl := Option.some.inj H
                        go_wp2
                        go_ret
                        exact ⟨by first | rfl | (simp [errW_none, errW_some] <;> rfl) | (simp [*, errW_none, errW_some] <;> rfl), by repeat (first | (with_reducible first | exact HB.out | apply below_alloc | apply pw_below_drewN | apply below_drew1) | exact HB.out)⟩
                    · rw [if_neg c37] at H
                      have c37b0 : (t160 == 0) = false := beq_eq_false_iff_ne.mpr c37
                      have c37b1 : (t160 != 0) = true := bne_iff_ne.mpr c37
                      obtain rfl := Option.some.inj H
                      go_wp2
                      go_ret
                      exact ⟨by first | rfl | (simp [errW_none, errW_some] <;> rfl) | (simp [*, errW_none, errW_some] <;> rfl), by repeat (first | (with_reducible first | exact HB.out | apply below_alloc | apply pw_below_drewN | apply below_drew1) | exact HB.out)⟩
              · rw [if_neg c29] at H
                have c29b0 : decide (a0 ≤ (IntKind.u64.wrap (a0 + a1))) = false := decide_eq_false c29
                clear c29
                by_cases c39 : t161 = true
                · subst c39
                  have H1 : (if t160 ≤ a2 then (if a0 = 0 then (if t160 = 0 then (some true) else (some false)) else (if (IntKind.u64.wrap (Int.tdiv t160 a0)) = a1 then (if (Int.tmod t160 a0) = 0 then (some true) else (some false)) else (some false))) else (some false)) = some r := by rw [if_pos rfl] at H; exact H
                  clear H
                  have H := H1
                  clear H1
                  by_cases c40 : t160 ≤ a2
                  · rw [if_pos c40] at H
                    have c40b0 : decide (t160 ≤ a2) = true := decide_eq_true c40
                    clear c40
                    by_cases c41 : a0 = 0
                    · rw [if_pos c41] at H
                      have c41b0 : (a0 == 0) = true := beq_iff_eq.mpr c41
                      have c41b1 : (a0 != 0) = false := bne_eq_false_iff_eq.mpr c41
                      clear c41
                      by_cases c42 : t160 = 0
                      · rw [if_pos c42] at H
                        have c42b0 : (t160 == 0) = true := beq_iff_eq.mpr c42
                        have c42b1 : (t160 != 0) = false := bne_eq_false_iff_eq.mpr c42
                        clear c42
                        obtain rfl := Option.some.inj H
                        go_wp2
                        go_ret
                        exact ⟨by first | rfl | (simp [errW_none, errW_some] <;> rfl) | (simp [*, errW_none, errW_some] <;> rfl), by repeat (first | (with_reducible first | exact HB.out | apply below_alloc | apply pw_below_drewN | apply below_drew1) | exact HB.out)⟩
                      · rw [if_neg c42] at H
                        have c42b0 : (t160 == 0) = false := beq_eq_false_iff_ne.mpr c42
                        have c42b1 : (t160 != 0) = true := bne_iff_ne.mpr c42
                        obtain rfl := Option.some.inj H
                        go_wp2
                        go_ret
                        exact ⟨by first | rfl | (simp [errW_none, errW_some] <;> rfl) | (simp [*, errW_none, errW_some] <;> rfl), by repeat (first | (with_reducible first | exact HB.out | apply below_alloc | apply pw_below_drewN | apply below_drew1) | exact HB.out)⟩
                    · rw [if_neg c41] at H
                      have c41b0 : (a0 == 0) = false := beq_eq_false_iff_ne.mpr c41
                      have c41b1 : (a0 != 0) = true := bne_iff_ne.mpr c41
                      by_cases c43 : (IntKind.u64.wrap (Int.tdiv t160 a0)) = a1
                      · rw [if_pos c43] at H
                        have c43b0 : ((IntKind.u64.wrap (Int.tdiv t160 a0)) == a1) = true := beq_iff_eq.mpr c43
                        have c43b1 : ((IntKind.u64.wrap (Int.tdiv t160 a0)) != a1) = false := bne_eq_false_iff_eq.mpr c43
                        clear c43
                        by_cases c44 : (Int.tmod t160 a0) = 0
                        · rw [if_pos c44] at H
                          have c44b0 : ((Int.tmod t160 a0) == 0) = true := beq_iff_eq.mpr c44
                          have c44b1 : ((Int.tmod t160 a0) != 0) = false := bne_eq_false_iff_eq.mpr c44
                          clear c44
                          obtain rfl := Option.some.inj H
                          go_wp2
                          go_ret
                          exact ⟨by first | rfl | (simp [errW_none, errW_some] <;> rfl) | (simp [*, errW_none, errW_some] <;> rfl), by repeat (first | (with_reducible first | exact HB.out | apply below_alloc | apply pw_below_drewN | apply below_drew1) | exact HB.out)⟩
                        · rw [if_neg c44] at H
                          have c44b0 : ((Int.tmod t160 a0) == 0) = false := beq_eq_false_iff_ne.mpr c44
                          have c44b1 : ((Int.tmod t160 a0) != 0) = true := bne_iff_ne.mpr c44
                          obtain rfl := Option.some.inj H
                          go_wp2
                          go_ret
                          exact ⟨by first | rfl | (simp [errW_none, errW_some] <;> rfl) | (simp [*, errW_none, errW_some] <;> rfl), by repeat (first | (with_reducible first | exact HB.out | apply below_alloc | apply pw_below_drewN | apply below_drew1) | exact HB.out)⟩
                      · rw [if_neg c43] at H
                        have c43b0 : ((IntKind.u64.wrap (Int.tdiv t160 a0)) == a1) = false := beq_eq_false_iff_ne.mpr c43
                        have c43b1 : ((IntKind.u64.wrap (Int.tdiv t160 a0)) != a1) = true := bne_iff_ne.mpr c43
                        obtain rfl := Option.some.inj H
                        go_wp2
                        go_ret
                        exact ⟨by first | rfl | (simp [errW_none, errW_some] <;> rfl) | (simp [*, errW_none, errW_some] <;> rfl), by repeat (first | (with_reducible first | exact HB.out | apply below_alloc | apply pw_below_drewN | apply below_drew1) | exact HB.out)⟩
                  · rw [if_neg c40] at H
                    have c40b0 : decide (t160 ≤ a2) = false := decide_eq_false c40
                    clear c40
                    obtain rfl := Option.some.inj H
                    go_wp2
                    go_ret
                    exact ⟨by first | rfl | (simp [errW_none, errW_some] <;> rfl) | (simp [*, errW_none, errW_some] <;> rfl), by repeat (first | (with_reducible first | exact HB.out | apply below_alloc | apply pw_below_drewN | apply below_drew1) | exact HB.out)⟩
                · replace c39 := Bool.eq_false_iff.mpr c39
                  subst c39
                  have H1 : (if t160 = 0 then (if a0 = 0 then (some false) else (some (decide (a1 > (IntKind.u64.wrap (Int.tdiv a2 a0)))))) else (some false)) = some r := by rw [if_neg (show ¬ (false = true) by decide)] at H; exact H
                  clear H
                  have H := H1
                  clear H1
                  by_cases c45 : t160 = 0
                  · rw [if_pos c45] at H
                    have c45b0 : (t160 == 0) = true := beq_iff_eq.mpr c45
                    have c45b1 : (t160 != 0) = false := bne_eq_false_iff_eq.mpr c45
                    clear c45
                    by_cases c46 : a0 = 0
                    · rw [if_pos c46] at H
                      have c46b0 : (a0 == 0) = true := beq_iff_eq.mpr c46
                      have c46b1 : (a0 != 0) = false := bne_eq_false_iff_eq.mpr c46
                      clear c46
                      obtain rfl := Option.some.inj H
                      go_wp2
                      go_ret
                      exact ⟨by first | rfl | (simp [errW_none, errW_some] <;> rfl) | (simp [*, errW_none, errW_some] <;> rfl), by repeat (first | (with_reducible first | exact HB.out | apply below_alloc | apply pw_below_drewN | apply below_drew1) | exact HB.out)⟩
                    · rw [if_neg c46] at H
                      have c46b0 : (a0 == 0) = false := beq_eq_false_iff_ne.mpr c46
                      have c46b1 : (a0 != 0) = true := bne_iff_ne.mpr c46
                      obtain rfl := Option.some.inj H
                      go_wp2
                      go_ret
                      exact ⟨by first | rfl | (simp [errW_none, errW_some] <;> rfl) | (simp [*, errW_none, errW_some] <;> rfl), by repeat (first | (with_reducible first | exact HB.out | apply below_alloc | apply pw_below_drewN | apply below_drew1) | exact HB.out)⟩
                  · rw [if_neg c45] at H
                    have c45b0 : (t160 == 0) = false := beq_eq_false_iff_ne.mpr c45
                    have c45b1 : (t160 != 0) = true := bne_iff_ne.mpr c45
                    obtain rfl := Option.some.inj H
                    go_wp2
                    go_ret
                    exact ⟨by first | rfl | (simp [errW_none, errW_some] <;> rfl) | (simp [*, errW_none, errW_some] <;> rfl), by repeat (first | (with_reducible first | exact HB.out | apply below_alloc | apply pw_below_drewN | apply below_drew1) | exact HB.out)⟩
            · rw [if_neg c28] at H
              have c28b0 : (t156 == 0) = false := beq_eq_false_iff_ne.mpr c28
              have c28b1 : (t156 != 0) = true := bne_iff_ne.mpr c28
              obtain rfl := Option.some.inj H
              go_wp2
              go_ret
              exact ⟨by first | rfl | (simp [errW_none, errW_some] <;> rfl) | (simp [*, errW_none, errW_some] <;> rfl), by repeat (first | (with_reducible first | exact HB.out | apply below_alloc | apply pw_below_drewN | apply below_drew1) | exact HB.out)⟩
  · replace c5 := Bool.eq_false_iff.mpr c5
    subst c5
    have H1 : (some false) = some r := by rw [if_neg (show ¬ (false = true) by decide)] at H; exact H
    clear H
    have H := H1
    clear H1
    obtain rfl := Option.some.inj H
    go_enter Try.func4, Try.ntmps4
    go_wp2_with (first | ((with_reducible refine gate_callee (f := 8) rfl ?_); refine goesL_ (some 15) rfl rfl Try.func8 (by kernel_rfl) rfl #[] rfl (by (try simp only [List.map_toArray, List.map_cons, List.map_nil]); first | done | rfl | (simp only [List.length_drop, List.length_take]; rfl)) ?_; (with_reducible refine (zoneinfolaw03_awake.calls k  false _ A4.out).mono ?_); rintro e w47 ⟨rfl, hb⟩; refine ⟨_, rfl, ?_⟩; have n0_ := Aside0.mk (below_step (by repeat (first | (with_reducible first | exact HB.out | apply below_alloc | apply pw_below_drewN | apply below_drew1) | exact HB.out)) hb); clear HB; have HB := n0_; clear n0_; (try clear hb); (try clear hb2); (try clear hk); (try clear hi)))
    go_ret
    exact ⟨by first | rfl | (simp [errW_none, errW_some] <;> rfl) | (simp [*, errW_none, errW_some] <;> rfl), by repeat (first | (with_reducible first | exact HB.out | apply below_alloc | apply pw_below_drewN | apply below_drew1) | exact HB.out)⟩

/-- THE ONE PURE STATEMENT of zoneinfolaw03_SizesExact: yours. -/
def zoneinfolaw03_SizesExact.Pure : Prop := ∀ (a0 : Int) (a1 : Int) (a2 : Int), (Lit.int .u64 a0).wf = true → (Lit.int .u64 a1).wf = true → (Lit.int .u64 a2).wf = true → ∃ k, zoneinfolaw03_SizesExact.f k a0 a1 a2 = some true
theorem zoneinfolaw03_SizesExact.walk (P : zoneinfolaw03_SizesExact.Pure) (a0 : Int) (a1 : Int) (a2 : Int) (w : World) (w0 : (Lit.int .u64 a0).wf = true) (w1 : (Lit.int .u64 a1).wf = true) (w2 : (Lit.int .u64 a2).wf = true) :
    Calls Try.prog 4 #[.int .u64 a0, .int .u64 a1, .int .u64 a2] w fun e w' => e = .returned (.bool true) ∧ Below w.heap.size w w' := by
  obtain ⟨k, h⟩ := P a0 a1 a2 w0 w1 w2
  refine (zoneinfolaw03_SizesExact.calls k a0 a1 a2 true w h).mono ?_
  rintro e w' ⟨rfl, hd⟩
  exact ⟨rfl, hd⟩

end Go.Proofs.Ytljompndopfflaa.G
