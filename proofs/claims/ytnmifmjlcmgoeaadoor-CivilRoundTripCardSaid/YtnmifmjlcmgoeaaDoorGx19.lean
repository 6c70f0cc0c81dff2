/- Written by a program of this session for this seat: contracts of the functions that its laws reach, or the row of a law over its plain part. -/
import Derived.Test.YtnmifmjlcmgoeaaDoorGx0
import Derived.Test.YtnmifmjlcmgoeaaDoorGx2
import Derived.Test.YtnmifmjlcmgoeaaDoorGx5
import Derived.Test.YtnmifmjlcmgoeaaDoorGx6
import Derived.Test.YtnmifmjlcmgoeaaDoorGx8
import Derived.Test.YtnmifmjlcmgoeaaDoorGx14
import Derived.Test.YtnmifmjlcmgoeaaDoorGx17
namespace Go.Proofs.YtnmifmjlcmgoeaaDoor.G
open Go.RowKit Go.Proofs.YtnmifmjlcmgoeaaDoorW.PrintWords Go.Proofs.YtnmifmjlcmgoeaaDoorW.PrintLast Go.Proofs.YtnmifmjlcmgoeaaDoorW.PrintMore
attribute [local go_sem] max2_int min2_int max_two min_two max_three min_three max_four min_four   -- for this text's walks alone
set_option linter.unusedVariables false
set_option linter.unusedSimpArgs false

/-! ### zoneinfolaw04_CivilRoundTrip: function 4 -/
def zoneinfolaw04_CivilRoundTrip.j0 : Nat → Int → Int → Int → Option (Bool)
  | 0, _, _, _ => none
  | k + 1, x0, x1, x2 => (zoneinforef04_Valid.f k x0 x1 x2).bind fun t168 => (if t168 = true then ((civil_Days.f x0 x1 x2).bind fun t169 => ((civil_Date.f t169).bind fun bt170 => (if bt170.1 = x0 then (if bt170.2.1 = x1 then (some (bt170.2.2 == x2)) else (none)) else (none)))) else (some true))
def zoneinfolaw04_CivilRoundTrip.f (k : Nat) (a0 : Int) (a1 : Int) (a2 : Int) (a3 : Int) : Option (Bool) := (zoneinfolaw04_awake.f).bind fun t161 => (if t161 = true then ((zoneinforef04_InRange.f k a3).bind fun t162 => (if t162 = true then ((civil_Date.f a3).bind fun bt163 => ((zoneinforef04_Valid.f k bt163.1 bt163.2.1 bt163.2.2).bind fun t166 => (if t166 = true then ((civil_Days.f bt163.1 bt163.2.1 bt163.2.2).bind fun t167 => (if t167 = a3 then (zoneinfolaw04_CivilRoundTrip.j0 k a0 a1 a2) else (none))) else (none)))) else (zoneinfolaw04_CivilRoundTrip.j0 k a0 a1 a2))) else (none))
theorem zoneinfolaw04_CivilRoundTrip.mono_l : ∀ k, (∀ y0 y1 y2, LeO (zoneinfolaw04_CivilRoundTrip.j0 k y0 y1 y2) (zoneinfolaw04_CivilRoundTrip.j0 (k + 1) y0 y1 y2))
  | 0 => fun _ _ _ r h => by simp [zoneinfolaw04_CivilRoundTrip.j0] at h
  | k + 1 => by
    have ih0 := zoneinfolaw04_CivilRoundTrip.mono_l k
    · intro y0 y1 y2
      unfold zoneinfolaw04_CivilRoundTrip.j0
      repeat' first
      | (with_reducible exact ih0 _ _ _)
      | (with_reducible exact zoneinforef04_InRange.mono _ _)
      | (with_reducible exact zoneinforef04_Valid.mono _ _ _ _)
      | (with_reducible exact LeO.refl _)
      | (with_reducible exact LeO.none _)
      | (with_reducible refine LeO.ite ?_ ?_)
      | (with_reducible refine LeO.bind ?_ (fun _ => ?_))
      | exact ih0 _ _ _
      | exact zoneinforef04_InRange.mono _ _
      | exact zoneinforef04_Valid.mono _ _ _ _
      | exact LeO.none _
      | refine LeO.ite ?_ ?_
      | refine LeO.bind ?_ (fun _ => ?_)
theorem zoneinfolaw04_CivilRoundTrip.mono : ∀ a0 a1 a2 a3 k, LeO (zoneinfolaw04_CivilRoundTrip.f k a0 a1 a2 a3) (zoneinfolaw04_CivilRoundTrip.f (k + 1) a0 a1 a2 a3) := by
  intro a0 a1 a2 a3 k
  have ih0 := zoneinfolaw04_CivilRoundTrip.mono_l k
  unfold zoneinfolaw04_CivilRoundTrip.f
  repeat' first
      | (with_reducible exact ih0 _ _ _)
      | (with_reducible exact zoneinforef04_InRange.mono _ _)
      | (with_reducible exact zoneinforef04_Valid.mono _ _ _ _)
      | (with_reducible exact LeO.refl _)
      | (with_reducible exact LeO.none _)
      | (with_reducible refine LeO.ite ?_ ?_)
      | (with_reducible refine LeO.bind ?_ (fun _ => ?_))
      | exact ih0 _ _ _
      | exact zoneinforef04_InRange.mono _ _
      | exact zoneinforef04_Valid.mono _ _ _ _
      | exact LeO.none _
      | refine LeO.ite ?_ ?_
      | refine LeO.bind ?_ (fun _ => ?_)
set_option maxHeartbeats 8000000 in
set_option maxRecDepth 100000 in
theorem zoneinfolaw04_CivilRoundTrip.calls (k : Nat) (a0 : Int) (a1 : Int) (a2 : Int) (a3 : Int) (r : Bool) (w : World) (hrg : GL w) (h : zoneinfolaw04_CivilRoundTrip.f k a0 a1 a2 a3 = some r) :
    Calls Tryd.prog 4 #[.int .i64 a0, .int .i64 a1, .int .i64 a2, .int .i64 a3] w fun e w' => e = .returned (.bool r) ∧ Drawn0 w w' := by
  have HRg := Aside0.mk hrg
  clear hrg
  have H : ((zoneinfolaw04_awake.f).bind fun t161 => (if t161 = true then ((zoneinforef04_InRange.f k a3).bind fun t162 => (if t162 = true then ((civil_Date.f a3).bind fun bt163 => ((zoneinforef04_Valid.f k bt163.1 bt163.2.1 bt163.2.2).bind fun t166 => (if t166 = true then ((civil_Days.f bt163.1 bt163.2.1 bt163.2.2).bind fun t167 => (if t167 = a3 then (zoneinfolaw04_CivilRoundTrip.j0 k a0 a1 a2) else (none))) else (none)))) else (zoneinfolaw04_CivilRoundTrip.j0 k a0 a1 a2))) else (none))) = some r := h
  clear h
  replace H := Option.bind_eq_some_iff.mp H
  obtain ⟨t161, A50, H⟩ := H
  replace H : (if t161 = true then ((zoneinforef04_InRange.f k a3).bind fun t162 => (if t162 = true then ((civil_Date.f a3).bind fun bt163 => ((zoneinforef04_Valid.f k bt163.1 bt163.2.1 bt163.2.2).bind fun t166 => (if t166 = true then ((civil_Days.f bt163.1 bt163.2.1 bt163.2.2).bind fun t167 => (if t167 = a3 then (zoneinfolaw04_CivilRoundTrip.j0 k a0 a1 a2) else (none))) else (none)))) else (zoneinfolaw04_CivilRoundTrip.j0 k a0 a1 a2))) else (none)) = some r := H
  have A5 := Aside0.mk A50
  clear A50
  by_cases c6 : t161 = true
  · subst c6
    have H1 : ((zoneinforef04_InRange.f k a3).bind fun t162 => (if t162 = true then ((civil_Date.f a3).bind fun bt163 => ((zoneinforef04_Valid.f k bt163.1 bt163.2.1 bt163.2.2).bind fun t166 => (if t166 = true then ((civil_Days.f bt163.1 bt163.2.1 bt163.2.2).bind fun t167 => (if t167 = a3 then (zoneinfolaw04_CivilRoundTrip.j0 k a0 a1 a2) else (none))) else (none)))) else (zoneinfolaw04_CivilRoundTrip.j0 k a0 a1 a2))) = some r := by rw [if_pos rfl] at H; exact H
    clear H
    have H := H1
    clear H1
    replace H := Option.bind_eq_some_iff.mp H
    obtain ⟨t162, A70, H⟩ := H
    replace H : (if t162 = true then ((civil_Date.f a3).bind fun bt163 => ((zoneinforef04_Valid.f k bt163.1 bt163.2.1 bt163.2.2).bind fun t166 => (if t166 = true then ((civil_Days.f bt163.1 bt163.2.1 bt163.2.2).bind fun t167 => (if t167 = a3 then (zoneinfolaw04_CivilRoundTrip.j0 k a0 a1 a2) else (none))) else (none)))) else (zoneinfolaw04_CivilRoundTrip.j0 k a0 a1 a2)) = some r := H
    have A7 := Aside0.mk A70
    clear A70
    have HC8 := Aside0.mk H
    clear H
    go_enter Tryd.func4, Tryd.ntmps4
    go_upto_if 18 with (first | ((with_reducible refine gate_callee (f := 8) rfl ?_); refine goesL_ (some 15) rfl rfl Tryd.func8 (by kernel_rfl) rfl #[] rfl (by (try simp only [List.map_toArray, List.map_cons, List.map_nil]); first | done | rfl | (simp only [List.length_drop, List.length_take]; rfl)) ?_; (with_reducible refine (zoneinfolaw04_awake.calls  true _ ?side1 A5.out).mono ?_); (case side1 => repeat (first | exact HRg.out | (with_reducible refine Kd.C_alloc ?_ _) | (with_reducible refine Kd.C_drewN ?_ _) | (with_reducible refine Kd.C_drew ?_))); rintro e w' ⟨rfl, ⟨nd, rfl⟩⟩; refine ⟨_, rfl, ?_⟩) | ((with_reducible refine gate_callee (f := 9) rfl ?_); refine goesL_ (some 18) rfl rfl Tryd.func9 (by kernel_rfl) rfl #[.int .i64 a3] rfl (by (try simp only [List.map_toArray, List.map_cons, List.map_nil]); first | done | rfl | (simp only [List.length_drop, List.length_take]; rfl)) ?_; (with_reducible refine (zoneinforef04_InRange.calls k a3 t162 _ A7.out).mono ?_); rintro e w' ⟨rfl, ⟨nd, rfl⟩⟩; refine ⟨_, rfl, ?_⟩))
    (try simp only [Act.put, List.setIfInBounds_toArray, List.set_cons_zero, List.set_cons_succ])
    go_cut [] (fun wc => ∃ (kq : Nat), Aside0 (zoneinfolaw04_CivilRoundTrip.j0 kq a0 a1 a2 = some r) ∧ Aside0 (kq ≤ k) ∧ Drawn0 w wc)
    case first =>
      have H := HC8.out
      clear HC8
      by_cases c9 : t162 = true
      · subst c9
        have H1 : ((civil_Date.f a3).bind fun bt163 => ((zoneinforef04_Valid.f k bt163.1 bt163.2.1 bt163.2.2).bind fun t166 => (if t166 = true then ((civil_Days.f bt163.1 bt163.2.1 bt163.2.2).bind fun t167 => (if t167 = a3 then (zoneinfolaw04_CivilRoundTrip.j0 k a0 a1 a2) else (none))) else (none)))) = some r := by rw [if_pos rfl] at H; exact H
        clear H
        have H := H1
        clear H1
        replace H := Option.bind_eq_some_iff.mp H
        obtain ⟨⟨t163, t164, t165⟩, A100, H⟩ := H
        replace H : ((zoneinforef04_Valid.f k t163 t164 t165).bind fun t166 => (if t166 = true then ((civil_Days.f t163 t164 t165).bind fun t167 => (if t167 = a3 then (zoneinfolaw04_CivilRoundTrip.j0 k a0 a1 a2) else (none))) else (none))) = some r := H
        have A10 := Aside0.mk A100
        clear A100
        replace H := Option.bind_eq_some_iff.mp H
        obtain ⟨t166, A110, H⟩ := H
        replace H : (if t166 = true then ((civil_Days.f t163 t164 t165).bind fun t167 => (if t167 = a3 then (zoneinfolaw04_CivilRoundTrip.j0 k a0 a1 a2) else (none))) else (none)) = some r := H
        have A11 := Aside0.mk A110
        clear A110
        by_cases c12 : t166 = true
        · subst c12
          have H1 : ((civil_Days.f t163 t164 t165).bind fun t167 => (if t167 = a3 then (zoneinfolaw04_CivilRoundTrip.j0 k a0 a1 a2) else (none))) = some r := by rw [if_pos rfl] at H; exact H
          clear H
          have H := H1
          clear H1
          replace H := Option.bind_eq_some_iff.mp H
          obtain ⟨t167, A130, H⟩ := H
          replace H : (if t167 = a3 then (zoneinfolaw04_CivilRoundTrip.j0 k a0 a1 a2) else (none)) = some r := H
          have A13 := Aside0.mk A130
          clear A130
          by_cases c14 : t167 = a3
          · rw [if_pos c14] at H
            have c14b0 : (t167 == a3) = true := beq_iff_eq.mpr c14
            have c14b1 : (t167 != a3) = false := bne_eq_false_iff_eq.mpr c14
            clear c14
            (first | rw [c14b0] | (simp only [i64_w, i32_w]; rw [c14b0]) | skip)
            have H' := Aside0.mk H
            clear H
            go_wp2_with (first | ((with_reducible refine gate_callee (f := 10) rfl ?_); refine goesL_ (some 21) rfl rfl Tryd.func10 (by kernel_rfl) rfl #[.int .i64 a3] rfl (by (try simp only [List.map_toArray, List.map_cons, List.map_nil]); first | done | rfl | (simp only [List.length_drop, List.length_take]; rfl)) ?_; (with_reducible refine (civil_Date.calls a3 t163 t164 t165 _ A10.out).mono ?_); rintro e w' ⟨rfl, ⟨nd, rfl⟩⟩; refine ⟨_, rfl, ?_⟩) | (go_at_call 14; (with_reducible refine (zoneinforef04_Valid.calls k t163 t164 t165 true _ A11.out).mono ?_); rintro e w' ⟨rfl, ⟨nd, rfl⟩⟩) | (go_at_call 19; (with_reducible refine (civil_Days.calls t163 t164 t165 t167 _ A13.out).mono ?_); rintro e w' ⟨rfl, ⟨nd, rfl⟩⟩))
            go_meet
            case rel => exact ⟨_, H', ⟨by first | omega | exact Nat.le_refl _⟩, by repeat (first | exact Drawn0.refl _ | apply Drawn0.step)⟩
          · rw [if_neg c14] at H
            exact absurd H (by simp)
        · replace c12 := Bool.eq_false_iff.mpr c12
          subst c12
          have H1 : (none) = some r := by rw [if_neg (show ¬ (false = true) by decide)] at H; exact H
          clear H
          have H := H1
          clear H1
          exact absurd H (by simp)
      · replace c9 := Bool.eq_false_iff.mpr c9
        subst c9
        have H1 : (zoneinfolaw04_CivilRoundTrip.j0 k a0 a1 a2) = some r := by rw [if_neg (show ¬ (false = true) by decide)] at H; exact H
        clear H
        have H := H1
        clear H1
        have H' := Aside0.mk H
        clear H
        go_wp2
        go_meet
        case rel => exact ⟨_, H', ⟨by first | omega | exact Nat.le_refl _⟩, by repeat (first | exact Drawn0.refl _ | apply Drawn0.step)⟩
    case rest =>
      clear HC8
      try clear c1
      try clear p2
      try clear c4
      try clear c6
      try clear c8
      try clear c9
      try clear c10
      try clear c12
      try clear c14
      try clear c14b0
      try clear c14b1
      obtain ⟨kq, HA, HJ7, ⟨mc7, rfl⟩⟩ := hcut
      cases kq with
      | zero => exact absurd HA.out (by simp [zoneinfolaw04_CivilRoundTrip.j0])
      | succ kj7 =>
        have H := HA.out
        clear HA
        simp only [zoneinfolaw04_CivilRoundTrip.j0] at H
        replace H := Option.bind_eq_some_iff.mp H
        obtain ⟨t168, A150, H⟩ := H
        replace H : (if t168 = true then ((civil_Days.f a0 a1 a2).bind fun t169 => ((civil_Date.f t169).bind fun bt170 => (if bt170.1 = a0 then (if bt170.2.1 = a1 then (some (bt170.2.2 == a2)) else (none)) else (none)))) else (some true)) = some r := H
        have A15 := Aside0.mk A150
        clear A150
        by_cases c16 : t168 = true
        · subst c16
          have H1 : ((civil_Days.f a0 a1 a2).bind fun t169 => ((civil_Date.f t169).bind fun bt170 => (if bt170.1 = a0 then (if bt170.2.1 = a1 then (some (bt170.2.2 == a2)) else (none)) else (none)))) = some r := by rw [if_pos rfl] at H; exact H
          clear H
          have H := H1
          clear H1
          replace H := Option.bind_eq_some_iff.mp H
          obtain ⟨t169, A170, H⟩ := H
          replace H : ((civil_Date.f t169).bind fun bt170 => (if bt170.1 = a0 then (if bt170.2.1 = a1 then (some (bt170.2.2 == a2)) else (none)) else (none))) = some r := H
          have A17 := Aside0.mk A170
          clear A170
          replace H := Option.bind_eq_some_iff.mp H
          obtain ⟨⟨t170, t171, t172⟩, A180, H⟩ := H
          replace H : (if t170 = a0 then (if t171 = a1 then (some (t172 == a2)) else (none)) else (none)) = some r := H
          have A18 := Aside0.mk A180
          clear A180
          by_cases c19 : t170 = a0
          · rw [if_pos c19] at H
            have c19b0 : (t170 == a0) = true := beq_iff_eq.mpr c19
            have c19b1 : (t170 != a0) = false := bne_eq_false_iff_eq.mpr c19
            clear c19
            by_cases c20 : t171 = a1
            · rw [if_pos c20] at H
              have c20b0 : (t171 == a1) = true := beq_iff_eq.mpr c20
              have c20b1 : (t171 != a1) = false := bne_eq_false_iff_eq.mpr c20
              clear c20
              obtain rfl := Option.some.inj H
              go_wp2_with (first | ((with_reducible refine gate_callee (f := 14) rfl ?_); refine goesL_ (some 41) rfl rfl Tryd.func14 (by kernel_rfl) rfl #[.int .i64 a0, .int .i64 a1, .int .i64 a2] rfl (by (try simp only [List.map_toArray, List.map_cons, List.map_nil]); first | done | rfl | (simp only [List.length_drop, List.length_take]; rfl)) ?_; (with_reducible refine (zoneinforef04_Valid.calls kj7 a0 a1 a2 true _ A15.out).mono ?_); rintro e w' ⟨rfl, ⟨nd, rfl⟩⟩; refine ⟨_, rfl, ?_⟩) | ((with_reducible refine gate_callee (f := 19) rfl ?_); refine goesL_ (some 47) rfl rfl Tryd.func19 (by kernel_rfl) rfl #[.int .i64 a0, .int .i64 a1, .int .i64 a2] rfl (by (try simp only [List.map_toArray, List.map_cons, List.map_nil]); first | done | rfl | (simp only [List.length_drop, List.length_take]; rfl)) ?_; (with_reducible refine (civil_Days.calls a0 a1 a2 t169 _ A17.out).mono ?_); rintro e w' ⟨rfl, ⟨nd, rfl⟩⟩; refine ⟨_, rfl, ?_⟩) | ((with_reducible refine gate_callee (f := 10) rfl ?_); refine goesL_ (some 48) rfl rfl Tryd.func10 (by kernel_rfl) rfl #[.int .i64 t169] rfl (by (try simp only [List.map_toArray, List.map_cons, List.map_nil]); first | done | rfl | (simp only [List.length_drop, List.length_take]; rfl)) ?_; (with_reducible refine (civil_Date.calls t169 t170 t171 t172 _ A18.out).mono ?_); rintro e w' ⟨rfl, ⟨nd, rfl⟩⟩; refine ⟨_, rfl, ?_⟩))
              go_ret
              exact ⟨by first | rfl | (simp; done) | (simp [*]; done), by repeat (first | exact Drawn0.refl _ | apply Drawn0.step)⟩
            · rw [if_neg c20] at H
              exact absurd H (by simp)
          · rw [if_neg c19] at H
            exact absurd H (by simp)
        · replace c16 := Bool.eq_false_iff.mpr c16
          subst c16
          have H1 : (some true) = some r := by rw [if_neg (show ¬ (false = true) by decide)] at H; exact H
          clear H
          have H := H1
          clear H1
          obtain rfl := Option.some.inj H
          go_wp2_with (first | ((with_reducible refine gate_callee (f := 14) rfl ?_); refine goesL_ (some 41) rfl rfl Tryd.func14 (by kernel_rfl) rfl #[.int .i64 a0, .int .i64 a1, .int .i64 a2] rfl (by (try simp only [List.map_toArray, List.map_cons, List.map_nil]); first | done | rfl | (simp only [List.length_drop, List.length_take]; rfl)) ?_; (with_reducible refine (zoneinforef04_Valid.calls kj7 a0 a1 a2 false _ A15.out).mono ?_); rintro e w' ⟨rfl, ⟨nd, rfl⟩⟩; refine ⟨_, rfl, ?_⟩))
          go_ret
          exact ⟨by first | rfl | (simp; done) | (simp [*]; done), by repeat (first | exact Drawn0.refl _ | apply Drawn0.step)⟩
  · replace c6 := Bool.eq_false_iff.mpr c6
    subst c6
    have H1 : (none) = some r := by rw [if_neg (show ¬ (false = true) by decide)] at H; exact H
    clear H
    have H := H1
    clear H1
    exact absurd H (by simp)

/-- THE ONE PURE STATEMENT of zoneinfolaw04_CivilRoundTrip: yours. -/
def zoneinfolaw04_CivilRoundTrip.Pure : Prop := ∀ (a0 : Int) (a1 : Int) (a2 : Int) (a3 : Int), (Lit.int .i64 a0).wf = true → (Lit.int .i64 a1).wf = true → (Lit.int .i64 a2).wf = true → (Lit.int .i64 a3).wf = true → ∃ k, zoneinfolaw04_CivilRoundTrip.f k a0 a1 a2 a3 = some true
theorem zoneinfolaw04_CivilRoundTrip.walk (P : zoneinfolaw04_CivilRoundTrip.Pure) (a0 : Int) (a1 : Int) (a2 : Int) (a3 : Int) (w : World) (hgl : GL w) (w0 : (Lit.int .i64 a0).wf = true) (w1 : (Lit.int .i64 a1).wf = true) (w2 : (Lit.int .i64 a2).wf = true) (w3 : (Lit.int .i64 a3).wf = true) :
    Calls Tryd.prog 4 #[.int .i64 a0, .int .i64 a1, .int .i64 a2, .int .i64 a3] w fun e w' => e = .returned (.bool true) ∧ Below w.heap.size w w' := by
  obtain ⟨k, h⟩ := P a0 a1 a2 a3 w0 w1 w2 w3
  refine (zoneinfolaw04_CivilRoundTrip.calls k a0 a1 a2 a3 true w hgl h).mono ?_
  rintro e w' ⟨rfl, hd⟩
  exact ⟨rfl, hd.below⟩

end Go.Proofs.YtnmifmjlcmgoeaaDoor.G
