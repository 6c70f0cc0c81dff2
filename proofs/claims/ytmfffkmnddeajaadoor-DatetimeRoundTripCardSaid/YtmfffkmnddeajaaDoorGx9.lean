/- Written by a program of this session for this seat: contracts of the functions that its laws reach, or the row of a law over its plain part. -/
import Derived.Test.YtmfffkmnddeajaaDoorGx0
import Derived.Test.YtmfffkmnddeajaaDoorGx1
import Derived.Test.YtmfffkmnddeajaaDoorGx2
import Derived.Test.YtmfffkmnddeajaaDoorGx3
import Derived.Test.YtmfffkmnddeajaaDoorGx4
import Derived.Test.YtmfffkmnddeajaaDoorGx5
import Derived.Test.YtmfffkmnddeajaaDoorGx6
import Derived.Test.YtmfffkmnddeajaaDoorGx7
import Derived.Test.YtmfffkmnddeajaaDoorGx8
namespace Go.Proofs.YtmfffkmnddeajaaDoor.G
open Go.RowKit Go.Proofs.YtmfffkmnddeajaaDoorW.PrintWords Go.Proofs.YtmfffkmnddeajaaDoorW.PrintLast Go.Proofs.YtmfffkmnddeajaaDoorW.PrintMore
attribute [local go_sem] max2_int min2_int max_two min_two max_three min_three max_four min_four   -- for this text's walks alone
set_option linter.unusedVariables false
set_option linter.unusedSimpArgs false

attribute [local go_sem high] eqA23
/-! ### zoneinfolaw05_DatetimeMatchesReference: function 3 -/
def zoneinfolaw05_DatetimeMatchesReference.f (k : Nat) (a0 : Int) (a1_0 : Int) (a1_1 : Int) (a1_2 : Int) (a1_3 : Int) (a1_4 : Int) (a1_5 : Int) (a1_6 : Int) : Option (Bool) := (zoneinfolaw05_awake.f k).bind fun t186 => (if t186 = true then ((datetime_Split.f a0).bind fun bt187 => ((zoneinforef05_Split.f a0).bind fun bt189 => ((datetime_Unix.f k a1_0 a1_1 a1_2 a1_3 a1_4 a1_5 a1_6).bind fun bt191 => ((zoneinforef05_Unix.f k a1_0 a1_1 a1_2 a1_3 a1_4 a1_5 a1_6).bind fun bt193 => (if bt187.1 = bt189.1 then (if bt187.2 = bt189.2 then ((datetime_Of.f a0).bind fun bt195 => ((zoneinforef05_Of.f k a0).bind fun bt202 => (if (bt195.1 == bt202.1 && (bt195.2.1 == bt202.2.1 && (bt195.2.2.1 == bt202.2.2.1 && (bt195.2.2.2.1 == bt202.2.2.2.1 && (bt195.2.2.2.2.1 == bt202.2.2.2.2.1 && (bt195.2.2.2.2.2.1 == bt202.2.2.2.2.2.1 && (bt195.2.2.2.2.2.2 == bt202.2.2.2.2.2.2))))))) = true then ((datetime_YearOf.f a0).bind fun t209 => (if t209 = bt202.1 then (if bt191.1 = bt193.1 then (some (bt191.2 == bt193.2)) else (none)) else (none))) else (none)))) else (none)) else (none)))))) else (none))
theorem zoneinfolaw05_DatetimeMatchesReference.mono : ∀ a0 a1 a2 a3 a4 a5 a6 a7 k, LeO (zoneinfolaw05_DatetimeMatchesReference.f k a0 a1 a2 a3 a4 a5 a6 a7) (zoneinfolaw05_DatetimeMatchesReference.f (k + 1) a0 a1 a2 a3 a4 a5 a6 a7) := by
  intro a0 a1 a2 a3 a4 a5 a6 a7 k
  unfold zoneinfolaw05_DatetimeMatchesReference.f
  repeat' first
      | (with_reducible exact datetime_Unix.mono _ _ _ _ _ _ _ _)
      | (with_reducible exact zoneinfolaw05_awake.mono _)
      | (with_reducible exact zoneinforef05_Of.mono _ _)
      | (with_reducible exact zoneinforef05_Unix.mono _ _ _ _ _ _ _ _)
      | (with_reducible exact LeO.refl _)
      | (with_reducible exact LeO.none _)
      | (with_reducible refine LeO.ite ?_ ?_)
      | (with_reducible refine LeO.bind ?_ (fun _ => ?_))
      | exact datetime_Unix.mono _ _ _ _ _ _ _ _
      | exact zoneinfolaw05_awake.mono _
      | exact zoneinforef05_Of.mono _ _
      | exact zoneinforef05_Unix.mono _ _ _ _ _ _ _ _
      | exact LeO.none _
      | refine LeO.ite ?_ ?_
      | refine LeO.bind ?_ (fun _ => ?_)
set_option maxHeartbeats 8000000 in
set_option maxRecDepth 100000 in
theorem zoneinfolaw05_DatetimeMatchesReference.calls (k : Nat) (a0 : Int) (a1_0 : Int) (a1_1 : Int) (a1_2 : Int) (a1_3 : Int) (a1_4 : Int) (a1_5 : Int) (a1_6 : Int) (r : Bool) (w : World) (hrg : GL w) (h : zoneinfolaw05_DatetimeMatchesReference.f k a0 a1_0 a1_1 a1_2 a1_3 a1_4 a1_5 a1_6 = some r) :
    Calls Tryd.prog 3 #[.int .i64 a0, .agg #[.int .i64 a1_0, .int .i64 a1_1, .int .i64 a1_2, .int .i64 a1_3, .int .i64 a1_4, .int .i64 a1_5, .int .i64 a1_6]] w fun e w' => e = .returned (.bool r) ∧ Below w.heap.size w w' := by
  have hu23 := Tryd.underlying23
  have hfd23_0 : ∀ (v0_ v1_ v2_ v3_ v4_ v5_ v6_ : Value) (W_ : World), (Instr.field 23 (.agg #[v0_, v1_, v2_, v3_, v4_, v5_, v6_]) 0).run Tryd.prog W_ = .ok (v0_) W_ := by intros; kernel_rfl
  have HRg := Aside0.mk hrg
  clear hrg
  have HB := Aside0.mk (Below.refl w.heap.size w)
  have H : ((zoneinfolaw05_awake.f k).bind fun t186 => (if t186 = true then ((datetime_Split.f a0).bind fun bt187 => ((zoneinforef05_Split.f a0).bind fun bt189 => ((datetime_Unix.f k a1_0 a1_1 a1_2 a1_3 a1_4 a1_5 a1_6).bind fun bt191 => ((zoneinforef05_Unix.f k a1_0 a1_1 a1_2 a1_3 a1_4 a1_5 a1_6).bind fun bt193 => (if bt187.1 = bt189.1 then (if bt187.2 = bt189.2 then ((datetime_Of.f a0).bind fun bt195 => ((zoneinforef05_Of.f k a0).bind fun bt202 => (if (bt195.1 == bt202.1 && (bt195.2.1 == bt202.2.1 && (bt195.2.2.1 == bt202.2.2.1 && (bt195.2.2.2.1 == bt202.2.2.2.1 && (bt195.2.2.2.2.1 == bt202.2.2.2.2.1 && (bt195.2.2.2.2.2.1 == bt202.2.2.2.2.2.1 && (bt195.2.2.2.2.2.2 == bt202.2.2.2.2.2.2))))))) = true then ((datetime_YearOf.f a0).bind fun t209 => (if t209 = bt202.1 then (if bt191.1 = bt193.1 then (some (bt191.2 == bt193.2)) else (none)) else (none))) else (none)))) else (none)) else (none)))))) else (none))) = some r := h
  clear h
  replace H := Option.bind_eq_some_iff.mp H
  obtain ⟨t186, A30, H⟩ := H
  replace H : (if t186 = true then ((datetime_Split.f a0).bind fun bt187 => ((zoneinforef05_Split.f a0).bind fun bt189 => ((datetime_Unix.f k a1_0 a1_1 a1_2 a1_3 a1_4 a1_5 a1_6).bind fun bt191 => ((zoneinforef05_Unix.f k a1_0 a1_1 a1_2 a1_3 a1_4 a1_5 a1_6).bind fun bt193 => (if bt187.1 = bt189.1 then (if bt187.2 = bt189.2 then ((datetime_Of.f a0).bind fun bt195 => ((zoneinforef05_Of.f k a0).bind fun bt202 => (if (bt195.1 == bt202.1 && (bt195.2.1 == bt202.2.1 && (bt195.2.2.1 == bt202.2.2.1 && (bt195.2.2.2.1 == bt202.2.2.2.1 && (bt195.2.2.2.2.1 == bt202.2.2.2.2.1 && (bt195.2.2.2.2.2.1 == bt202.2.2.2.2.2.1 && (bt195.2.2.2.2.2.2 == bt202.2.2.2.2.2.2))))))) = true then ((datetime_YearOf.f a0).bind fun t209 => (if t209 = bt202.1 then (if bt191.1 = bt193.1 then (some (bt191.2 == bt193.2)) else (none)) else (none))) else (none)))) else (none)) else (none)))))) else (none)) = some r := H
  have A3 := Aside0.mk A30
  clear A30
  by_cases c4 : t186 = true
  · subst c4
    have H1 : ((datetime_Split.f a0).bind fun bt187 => ((zoneinforef05_Split.f a0).bind fun bt189 => ((datetime_Unix.f k a1_0 a1_1 a1_2 a1_3 a1_4 a1_5 a1_6).bind fun bt191 => ((zoneinforef05_Unix.f k a1_0 a1_1 a1_2 a1_3 a1_4 a1_5 a1_6).bind fun bt193 => (if bt187.1 = bt189.1 then (if bt187.2 = bt189.2 then ((datetime_Of.f a0).bind fun bt195 => ((zoneinforef05_Of.f k a0).bind fun bt202 => (if (bt195.1 == bt202.1 && (bt195.2.1 == bt202.2.1 && (bt195.2.2.1 == bt202.2.2.1 && (bt195.2.2.2.1 == bt202.2.2.2.1 && (bt195.2.2.2.2.1 == bt202.2.2.2.2.1 && (bt195.2.2.2.2.2.1 == bt202.2.2.2.2.2.1 && (bt195.2.2.2.2.2.2 == bt202.2.2.2.2.2.2))))))) = true then ((datetime_YearOf.f a0).bind fun t209 => (if t209 = bt202.1 then (if bt191.1 = bt193.1 then (some (bt191.2 == bt193.2)) else (none)) else (none))) else (none)))) else (none)) else (none)))))) = some r := by rw [if_pos rfl] at H; exact H
    clear H
    have H := H1
    clear H1
    replace H := Option.bind_eq_some_iff.mp H
    obtain ⟨⟨t187, t188⟩, A50, H⟩ := H
    replace H : ((zoneinforef05_Split.f a0).bind fun bt189 => ((datetime_Unix.f k a1_0 a1_1 a1_2 a1_3 a1_4 a1_5 a1_6).bind fun bt191 => ((zoneinforef05_Unix.f k a1_0 a1_1 a1_2 a1_3 a1_4 a1_5 a1_6).bind fun bt193 => (if t187 = bt189.1 then (if t188 = bt189.2 then ((datetime_Of.f a0).bind fun bt195 => ((zoneinforef05_Of.f k a0).bind fun bt202 => (if (bt195.1 == bt202.1 && (bt195.2.1 == bt202.2.1 && (bt195.2.2.1 == bt202.2.2.1 && (bt195.2.2.2.1 == bt202.2.2.2.1 && (bt195.2.2.2.2.1 == bt202.2.2.2.2.1 && (bt195.2.2.2.2.2.1 == bt202.2.2.2.2.2.1 && (bt195.2.2.2.2.2.2 == bt202.2.2.2.2.2.2))))))) = true then ((datetime_YearOf.f a0).bind fun t209 => (if t209 = bt202.1 then (if bt191.1 = bt193.1 then (some (bt191.2 == bt193.2)) else (none)) else (none))) else (none)))) else (none)) else (none))))) = some r := H
    have A5 := Aside0.mk A50
    clear A50
    replace H := Option.bind_eq_some_iff.mp H
    obtain ⟨⟨t189, t190⟩, A60, H⟩ := H
    replace H : ((datetime_Unix.f k a1_0 a1_1 a1_2 a1_3 a1_4 a1_5 a1_6).bind fun bt191 => ((zoneinforef05_Unix.f k a1_0 a1_1 a1_2 a1_3 a1_4 a1_5 a1_6).bind fun bt193 => (if t187 = t189 then (if t188 = t190 then ((datetime_Of.f a0).bind fun bt195 => ((zoneinforef05_Of.f k a0).bind fun bt202 => (if (bt195.1 == bt202.1 && (bt195.2.1 == bt202.2.1 && (bt195.2.2.1 == bt202.2.2.1 && (bt195.2.2.2.1 == bt202.2.2.2.1 && (bt195.2.2.2.2.1 == bt202.2.2.2.2.1 && (bt195.2.2.2.2.2.1 == bt202.2.2.2.2.2.1 && (bt195.2.2.2.2.2.2 == bt202.2.2.2.2.2.2))))))) = true then ((datetime_YearOf.f a0).bind fun t209 => (if t209 = bt202.1 then (if bt191.1 = bt193.1 then (some (bt191.2 == bt193.2)) else (none)) else (none))) else (none)))) else (none)) else (none)))) = some r := H
    have A6 := Aside0.mk A60
    clear A60
    replace H := Option.bind_eq_some_iff.mp H
    obtain ⟨⟨t191, t192⟩, A70, H⟩ := H
    replace H : ((zoneinforef05_Unix.f k a1_0 a1_1 a1_2 a1_3 a1_4 a1_5 a1_6).bind fun bt193 => (if t187 = t189 then (if t188 = t190 then ((datetime_Of.f a0).bind fun bt195 => ((zoneinforef05_Of.f k a0).bind fun bt202 => (if (bt195.1 == bt202.1 && (bt195.2.1 == bt202.2.1 && (bt195.2.2.1 == bt202.2.2.1 && (bt195.2.2.2.1 == bt202.2.2.2.1 && (bt195.2.2.2.2.1 == bt202.2.2.2.2.1 && (bt195.2.2.2.2.2.1 == bt202.2.2.2.2.2.1 && (bt195.2.2.2.2.2.2 == bt202.2.2.2.2.2.2))))))) = true then ((datetime_YearOf.f a0).bind fun t209 => (if t209 = bt202.1 then (if t191 = bt193.1 then (some (t192 == bt193.2)) else (none)) else (none))) else (none)))) else (none)) else (none))) = some r := H
    have A7 := Aside0.mk A70
    clear A70
    replace H := Option.bind_eq_some_iff.mp H
    obtain ⟨⟨t193, t194⟩, A80, H⟩ := H
    replace H : (if t187 = t189 then (if t188 = t190 then ((datetime_Of.f a0).bind fun bt195 => ((zoneinforef05_Of.f k a0).bind fun bt202 => (if (bt195.1 == bt202.1 && (bt195.2.1 == bt202.2.1 && (bt195.2.2.1 == bt202.2.2.1 && (bt195.2.2.2.1 == bt202.2.2.2.1 && (bt195.2.2.2.2.1 == bt202.2.2.2.2.1 && (bt195.2.2.2.2.2.1 == bt202.2.2.2.2.2.1 && (bt195.2.2.2.2.2.2 == bt202.2.2.2.2.2.2))))))) = true then ((datetime_YearOf.f a0).bind fun t209 => (if t209 = bt202.1 then (if t191 = t193 then (some (t192 == t194)) else (none)) else (none))) else (none)))) else (none)) else (none)) = some r := H
    have A8 := Aside0.mk A80
    clear A80
    by_cases c9 : t187 = t189
    · rw [if_pos c9] at H
      have c9b0 : (t187 == t189) = true := beq_iff_eq.mpr c9
      have c9b1 : (t187 != t189) = false := bne_eq_false_iff_eq.mpr c9
      clear c9
      by_cases c10 : t188 = t190
      · rw [if_pos c10] at H
        have c10b0 : (t188 == t190) = true := beq_iff_eq.mpr c10
        have c10b1 : (t188 != t190) = false := bne_eq_false_iff_eq.mpr c10
        clear c10
        replace H := Option.bind_eq_some_iff.mp H
        obtain ⟨⟨t195, t196, t197, t198, t199, t200, t201⟩, A110, H⟩ := H
        replace H : ((zoneinforef05_Of.f k a0).bind fun bt202 => (if (t195 == bt202.1 && (t196 == bt202.2.1 && (t197 == bt202.2.2.1 && (t198 == bt202.2.2.2.1 && (t199 == bt202.2.2.2.2.1 && (t200 == bt202.2.2.2.2.2.1 && (t201 == bt202.2.2.2.2.2.2))))))) = true then ((datetime_YearOf.f a0).bind fun t209 => (if t209 = bt202.1 then (if t191 = t193 then (some (t192 == t194)) else (none)) else (none))) else (none))) = some r := H
        have A11 := Aside0.mk A110
        clear A110
        replace H := Option.bind_eq_some_iff.mp H
        obtain ⟨⟨t202, t203, t204, t205, t206, t207, t208⟩, A120, H⟩ := H
        replace H : (if (t195 == t202 && (t196 == t203 && (t197 == t204 && (t198 == t205 && (t199 == t206 && (t200 == t207 && (t201 == t208))))))) = true then ((datetime_YearOf.f a0).bind fun t209 => (if t209 = t202 then (if t191 = t193 then (some (t192 == t194)) else (none)) else (none))) else (none)) = some r := H
        have A12 := Aside0.mk A120
        clear A120
        by_cases c13 : (t195 == t202 && (t196 == t203 && (t197 == t204 && (t198 == t205 && (t199 == t206 && (t200 == t207 && (t201 == t208))))))) = true
        · rw [if_pos c13] at H
          have c13b0 : (t195 == t202 && (t196 == t203 && (t197 == t204 && (t198 == t205 && (t199 == t206 && (t200 == t207 && (t201 == t208))))))) = true := c13
          (try (have c13b1 : decide (t195 = t202 && (t196 == t203 && (t197 == t204 && (t198 == t205 && (t199 == t206 && (t200 == t207 && (t201 == t208))))))) = true := by simpa using c13))
          (try (have c13b2 : (t195 == t202 && (t196 == t203 && (t197 == t204 && (t198 == t205 && (t199 == t206 && (t200 == t207 && (t201 == t208))))))) = true := by simpa using c13))
          clear c13
          replace H := Option.bind_eq_some_iff.mp H
          obtain ⟨t209, A140, H⟩ := H
          replace H : (if t209 = t202 then (if t191 = t193 then (some (t192 == t194)) else (none)) else (none)) = some r := H
          have A14 := Aside0.mk A140
          clear A140
          by_cases c15 : t209 = t202
          · rw [if_pos c15] at H
            have c15b0 : (t209 == t202) = true := beq_iff_eq.mpr c15
            have c15b1 : (t209 != t202) = false := bne_eq_false_iff_eq.mpr c15
            clear c15
            by_cases c16 : t191 = t193
            · rw [if_pos c16] at H
              have c16b0 : (t191 == t193) = true := beq_iff_eq.mpr c16
              have c16b1 : (t191 != t193) = false := bne_eq_false_iff_eq.mpr c16
              clear c16
              obtain rfl := Option.some.inj H
              go_enter Tryd.func3, Tryd.ntmps3
              go_wp2_with (first | ((with_reducible refine gate_dst (N := 3) rfl ?_); refine box_event ?hg (N := 3) ?hd (cs := #[.int .i64 a1_0, .int .i64 a1_1, .int .i64 a1_2, .int .i64 a1_3, .int .i64 a1_4, .int .i64 a1_5, .int .i64 a1_6]) (t := 23) ?hr ?_; (case hd => rfl); (case hg => rfl); (case hr => first | (go_simp; done) | (go_simp; rfl)); intro gb185 hg w17 hbox hb; have n0_ := Aside0.mk (below_step (by repeat (first | (with_reducible first | exact HB.out | apply below_alloc | apply pw_below_drewN | apply below_drew1) | exact HB.out)) hb); have n1_ := Aside0.mk (hbox); have n2_ := Aside0.mk ((by rw [hg]; exact (below_size (by repeat (first | (with_reducible first | exact HB.out | apply below_alloc | apply pw_below_drewN | apply below_drew1) | exact HB.out))) : w.heap.size ≤ gb185)); have n3_ := Aside0.mk ((by rw [hg]; exact (below_size (by repeat (first | (with_reducible first | exact HB.out | apply below_alloc | apply pw_below_drewN | apply below_drew1) | exact HB.out))) : w.heap.size ≤ gb185)); clear HB; have HB := n0_; have BK185 := n1_; have GW185 := n2_; have GE185 := n3_; clear n0_ n1_ n2_ n3_; clear hb hbox hg) | ((with_reducible refine gate_callee (f := 8) rfl ?_); refine goesL_ (some 13) rfl rfl Tryd.func8 (by kernel_rfl) rfl #[] rfl (by (try simp only [List.map_toArray, List.map_cons, List.map_nil]); first | done | rfl | (simp only [List.length_drop, List.length_take]; rfl)) ?_; (with_reducible refine (zoneinfolaw05_awake.calls k  true _ ?side1 A3.out).mono ?_); (case side1 => repeat (first | exact (Kd.C_below HRg.out HB.out) | (with_reducible refine Kd.C_alloc ?_ _) | (with_reducible refine Kd.C_drewN ?_ _) | (with_reducible refine Kd.C_drew ?_))); rintro e w18 ⟨rfl, hb⟩; refine ⟨_, rfl, ?_⟩; have n0_ := Aside0.mk (blk_below (g := gb185) (o := .cells #[.int .i64 a1_0, .int .i64 a1_1, .int .i64 a1_2, .int .i64 a1_3, .int .i64 a1_4, .int .i64 a1_5, .int .i64 a1_6] 23 (0, 0)) (by (with_reducible repeat (first | refine blk_drewN ?_ _ | refine blk_drew ?_ | refine blk_alloc ?_ _)); exact BK185.out) hb); have n1_ := Aside0.mk (below_step (by repeat (first | (with_reducible first | exact HB.out | apply below_alloc | apply pw_below_drewN | apply below_drew1 | refine below_set ?_ GE185.out) | exact HB.out)) hb); clear BK185; clear HB; have BK185 := n0_; have HB := n1_; clear n0_ n1_; (try clear hb); (try clear hb2); (try clear hk); (try clear hi)) | ((with_reducible refine gate_callee (f := 9) rfl ?_); refine goesL_ (some 17) rfl rfl Tryd.func9 (by kernel_rfl) rfl #[.int .i64 a0] rfl (by (try simp only [List.map_toArray, List.map_cons, List.map_nil]); first | done | rfl | (simp only [List.length_drop, List.length_take]; rfl)) ?_; (with_reducible refine (datetime_Split.calls a0 t187 t188 _ A5.out).mono ?_); rintro e w' ⟨rfl, ⟨nd, rfl⟩⟩; refine ⟨_, rfl, ?_⟩) | ((with_reducible refine gate_callee (f := 10) rfl ?_); refine goesL_ (some 22) rfl rfl Tryd.func10 (by kernel_rfl) rfl #[.int .i64 a0] rfl (by (try simp only [List.map_toArray, List.map_cons, List.map_nil]); first | done | rfl | (simp only [List.length_drop, List.length_take]; rfl)) ?_; (with_reducible refine (zoneinforef05_Split.calls a0 t189 t190 _ A6.out).mono ?_); rintro e w' ⟨rfl, ⟨nd, rfl⟩⟩; refine ⟨_, rfl, ?_⟩; have hcz19_0 : w18.cell? ⟨gb185, 0, none⟩ = some (.int .i64 a1_0) := (blk_cell BK185.out 0).trans rfl; have hcz19_1 : w18.cell? ⟨gb185, 1, none⟩ = some (.int .i64 a1_1) := (blk_cell BK185.out 1).trans rfl; have hcz19_2 : w18.cell? ⟨gb185, 2, none⟩ = some (.int .i64 a1_2) := (blk_cell BK185.out 2).trans rfl; have hcz19_3 : w18.cell? ⟨gb185, 3, none⟩ = some (.int .i64 a1_3) := (blk_cell BK185.out 3).trans rfl; have hcz19_4 : w18.cell? ⟨gb185, 4, none⟩ = some (.int .i64 a1_4) := (blk_cell BK185.out 4).trans rfl; have hcz19_5 : w18.cell? ⟨gb185, 5, none⟩ = some (.int .i64 a1_5) := (blk_cell BK185.out 5).trans rfl; have hcz19_6 : w18.cell? ⟨gb185, 6, none⟩ = some (.int .i64 a1_6) := (blk_cell BK185.out 6).trans rfl; have hfz19_0 := blk_frozen BK185.out 0; have hfz19_1 := blk_frozen BK185.out 1; have hfz19_2 := blk_frozen BK185.out 2; have hfz19_3 := blk_frozen BK185.out 3; have hfz19_4 := blk_frozen BK185.out 4; have hfz19_5 := blk_frozen BK185.out 5; have hfz19_6 := blk_frozen BK185.out 6) | ((with_reducible refine gate_callee (f := 11) rfl ?_); refine goesL_ (some 27) rfl rfl Tryd.func11 (by kernel_rfl) rfl #[.agg #[.int .i64 a1_0, .int .i64 a1_1, .int .i64 a1_2, .int .i64 a1_3, .int .i64 a1_4, .int .i64 a1_5, .int .i64 a1_6]] rfl (by (try simp only [List.map_toArray, List.map_cons, List.map_nil]); first | done | rfl | (simp only [List.length_drop, List.length_take]; rfl)) ?_; (with_reducible refine (datetime_Unix.calls k a1_0 a1_1 a1_2 a1_3 a1_4 a1_5 a1_6 t191 t192 _ ?side1 A7.out).mono ?_); (case side1 => repeat (first | exact (Kd.C_below HRg.out (by repeat (first | (with_reducible first | exact HB.out | apply below_alloc | apply pw_below_drewN | apply below_drew1 | refine below_set ?_ GE185.out) | exact HB.out))) | (with_reducible refine Kd.C_alloc ?_ _) | (with_reducible refine Kd.C_drewN ?_ _) | (with_reducible refine Kd.C_drew ?_))); rintro e w20 ⟨rfl, hb⟩; refine ⟨_, rfl, ?_⟩; have n0_ := Aside0.mk (blk_below (g := gb185) (o := .cells #[.int .i64 a1_0, .int .i64 a1_1, .int .i64 a1_2, .int .i64 a1_3, .int .i64 a1_4, .int .i64 a1_5, .int .i64 a1_6] 23 (0, 0)) (by (with_reducible repeat (first | refine blk_drewN ?_ _ | refine blk_drew ?_ | refine blk_alloc ?_ _)); exact BK185.out) hb); have n1_ := Aside0.mk (below_step (by repeat (first | (with_reducible first | exact HB.out | apply below_alloc | apply pw_below_drewN | apply below_drew1 | refine below_set ?_ GE185.out) | exact HB.out)) hb); clear BK185; clear HB; have BK185 := n0_; have HB := n1_; clear n0_ n1_; (try clear hb); (try clear hb2); (try clear hk); (try clear hi); have hcz21_0 : w20.cell? ⟨gb185, 0, none⟩ = some (.int .i64 a1_0) := (blk_cell BK185.out 0).trans rfl; have hcz21_1 : w20.cell? ⟨gb185, 1, none⟩ = some (.int .i64 a1_1) := (blk_cell BK185.out 1).trans rfl; have hcz21_2 : w20.cell? ⟨gb185, 2, none⟩ = some (.int .i64 a1_2) := (blk_cell BK185.out 2).trans rfl; have hcz21_3 : w20.cell? ⟨gb185, 3, none⟩ = some (.int .i64 a1_3) := (blk_cell BK185.out 3).trans rfl; have hcz21_4 : w20.cell? ⟨gb185, 4, none⟩ = some (.int .i64 a1_4) := (blk_cell BK185.out 4).trans rfl; have hcz21_5 : w20.cell? ⟨gb185, 5, none⟩ = some (.int .i64 a1_5) := (blk_cell BK185.out 5).trans rfl; have hcz21_6 : w20.cell? ⟨gb185, 6, none⟩ = some (.int .i64 a1_6) := (blk_cell BK185.out 6).trans rfl; have hfz21_0 := blk_frozen BK185.out 0; have hfz21_1 := blk_frozen BK185.out 1; have hfz21_2 := blk_frozen BK185.out 2; have hfz21_3 := blk_frozen BK185.out 3; have hfz21_4 := blk_frozen BK185.out 4; have hfz21_5 := blk_frozen BK185.out 5; have hfz21_6 := blk_frozen BK185.out 6) | ((with_reducible refine gate_callee (f := 12) rfl ?_); refine goesL_ (some 32) rfl rfl Tryd.func12 (by kernel_rfl) rfl #[.agg #[.int .i64 a1_0, .int .i64 a1_1, .int .i64 a1_2, .int .i64 a1_3, .int .i64 a1_4, .int .i64 a1_5, .int .i64 a1_6]] rfl (by (try simp only [List.map_toArray, List.map_cons, List.map_nil]); first | done | rfl | (simp only [List.length_drop, List.length_take]; rfl)) ?_; (with_reducible refine (zoneinforef05_Unix.calls k a1_0 a1_1 a1_2 a1_3 a1_4 a1_5 a1_6 t193 t194 _ A8.out).mono ?_); rintro e w22 ⟨rfl, hb⟩; refine ⟨_, rfl, ?_⟩; have n0_ := Aside0.mk (blk_below (g := gb185) (o := .cells #[.int .i64 a1_0, .int .i64 a1_1, .int .i64 a1_2, .int .i64 a1_3, .int .i64 a1_4, .int .i64 a1_5, .int .i64 a1_6] 23 (0, 0)) (by (with_reducible repeat (first | refine blk_drewN ?_ _ | refine blk_drew ?_ | refine blk_alloc ?_ _)); exact BK185.out) hb); have n1_ := Aside0.mk (below_step (by repeat (first | (with_reducible first | exact HB.out | apply below_alloc | apply pw_below_drewN | apply below_drew1 | refine below_set ?_ GE185.out) | exact HB.out)) hb); clear BK185; clear HB; have BK185 := n0_; have HB := n1_; clear n0_ n1_; (try clear hb); (try clear hb2); (try clear hk); (try clear hi)) | (go_at_call 13; (with_reducible refine (datetime_Of.calls a0 t195 t196 t197 t198 t199 t200 t201 _ A11.out).mono ?_); rintro e w23 ⟨rfl, hb⟩; have n0_ := Aside0.mk (blk_below (g := gb185) (o := .cells #[.int .i64 a1_0, .int .i64 a1_1, .int .i64 a1_2, .int .i64 a1_3, .int .i64 a1_4, .int .i64 a1_5, .int .i64 a1_6] 23 (0, 0)) (by (with_reducible repeat (first | refine blk_drewN ?_ _ | refine blk_drew ?_ | refine blk_alloc ?_ _)); exact BK185.out) hb); have n1_ := Aside0.mk (below_step (by repeat (first | (with_reducible first | exact HB.out | apply below_alloc | apply pw_below_drewN | apply below_drew1 | refine below_set ?_ GE185.out) | exact HB.out)) hb); clear BK185; clear HB; have BK185 := n0_; have HB := n1_; clear n0_ n1_; (try clear hb); (try clear hb2); (try clear hk); (try clear hi)) | (go_at_call 14; (with_reducible refine (zoneinforef05_Of.calls k a0 t202 t203 t204 t205 t206 t207 t208 _ A12.out).mono ?_); rintro e w24 ⟨rfl, hb⟩; have n0_ := Aside0.mk (blk_below (g := gb185) (o := .cells #[.int .i64 a1_0, .int .i64 a1_1, .int .i64 a1_2, .int .i64 a1_3, .int .i64 a1_4, .int .i64 a1_5, .int .i64 a1_6] 23 (0, 0)) (by (with_reducible repeat (first | refine blk_drewN ?_ _ | refine blk_drew ?_ | refine blk_alloc ?_ _)); exact BK185.out) hb); have n1_ := Aside0.mk (below_step (by repeat (first | (with_reducible first | exact HB.out | apply below_alloc | apply pw_below_drewN | apply below_drew1 | refine below_set ?_ GE185.out) | exact HB.out)) hb); clear BK185; clear HB; have BK185 := n0_; have HB := n1_; clear n0_ n1_; (try clear hb); (try clear hb2); (try clear hk); (try clear hi)) | (go_at_call 15; (with_reducible refine (datetime_YearOf.calls a0 t209 _ A14.out).mono ?_); rintro e w25 ⟨rfl, hb⟩; have n0_ := Aside0.mk (blk_below (g := gb185) (o := .cells #[.int .i64 a1_0, .int .i64 a1_1, .int .i64 a1_2, .int .i64 a1_3, .int .i64 a1_4, .int .i64 a1_5, .int .i64 a1_6] 23 (0, 0)) (by (with_reducible repeat (first | refine blk_drewN ?_ _ | refine blk_drew ?_ | refine blk_alloc ?_ _)); exact BK185.out) hb); have n1_ := Aside0.mk (below_step (by repeat (first | (with_reducible first | exact HB.out | apply below_alloc | apply pw_below_drewN | apply below_drew1 | refine below_set ?_ GE185.out) | exact HB.out)) hb); clear BK185; clear HB; have BK185 := n0_; have HB := n1_; clear n0_ n1_; (try clear hb); (try clear hb2); (try clear hk); (try clear hi)))
              go_ret
              exact ⟨by first | rfl | (simp [errW_none, errW_some] <;> rfl) | (simp [*, errW_none, errW_some] <;> rfl), by repeat (first | (with_reducible first | exact HB.out | apply below_alloc | apply pw_below_drewN | apply below_drew1 | refine below_set ?_ GE185.out) | exact HB.out)⟩
            · rw [if_neg c16] at H
              exact absurd H (by simp)
          · rw [if_neg c15] at H
            exact absurd H (by simp)
        · rw [if_neg c13] at H
          exact absurd H (by simp)
      · rw [if_neg c10] at H
        exact absurd H (by simp)
    · rw [if_neg c9] at H
      exact absurd H (by simp)
  · replace c4 := Bool.eq_false_iff.mpr c4
    subst c4
    have H1 : (none) = some r := by rw [if_neg (show ¬ (false = true) by decide)] at H; exact H
    clear H
    have H := H1
    clear H1
    exact absurd H (by simp)

/-- THE ONE PURE STATEMENT of zoneinfolaw05_DatetimeMatchesReference: yours. -/
def zoneinfolaw05_DatetimeMatchesReference.Pure : Prop := ∀ (a0 : Int) (a1_0 : Int) (a1_1 : Int) (a1_2 : Int) (a1_3 : Int) (a1_4 : Int) (a1_5 : Int) (a1_6 : Int), (Lit.int .i64 a0).wf = true → (Lit.int .i64 a1_0).wf = true → (Lit.int .i64 a1_1).wf = true → (Lit.int .i64 a1_2).wf = true → (Lit.int .i64 a1_3).wf = true → (Lit.int .i64 a1_4).wf = true → (Lit.int .i64 a1_5).wf = true → (Lit.int .i64 a1_6).wf = true → ∃ k, zoneinfolaw05_DatetimeMatchesReference.f k a0 a1_0 a1_1 a1_2 a1_3 a1_4 a1_5 a1_6 = some true
theorem zoneinfolaw05_DatetimeMatchesReference.walk (P : zoneinfolaw05_DatetimeMatchesReference.Pure) (a0 : Int) (a1_0 : Int) (a1_1 : Int) (a1_2 : Int) (a1_3 : Int) (a1_4 : Int) (a1_5 : Int) (a1_6 : Int) (w : World) (hgl : GL w) (w0 : (Lit.int .i64 a0).wf = true) (w1_0 : (Lit.int .i64 a1_0).wf = true) (w1_1 : (Lit.int .i64 a1_1).wf = true) (w1_2 : (Lit.int .i64 a1_2).wf = true) (w1_3 : (Lit.int .i64 a1_3).wf = true) (w1_4 : (Lit.int .i64 a1_4).wf = true) (w1_5 : (Lit.int .i64 a1_5).wf = true) (w1_6 : (Lit.int .i64 a1_6).wf = true) :
    Calls Tryd.prog 3 #[.int .i64 a0, .agg #[.int .i64 a1_0, .int .i64 a1_1, .int .i64 a1_2, .int .i64 a1_3, .int .i64 a1_4, .int .i64 a1_5, .int .i64 a1_6]] w fun e w' => e = .returned (.bool true) ∧ Below w.heap.size w w' := by
  obtain ⟨k, h⟩ := P a0 a1_0 a1_1 a1_2 a1_3 a1_4 a1_5 a1_6 w0 w1_0 w1_1 w1_2 w1_3 w1_4 w1_5 w1_6
  refine (zoneinfolaw05_DatetimeMatchesReference.calls k a0 a1_0 a1_1 a1_2 a1_3 a1_4 a1_5 a1_6 true w hgl h).mono ?_
  rintro e w' ⟨rfl, hd⟩
  exact ⟨rfl, hd⟩

/-! ### zoneinfolaw05_DatetimeRoundTrip: function 4 -/
def zoneinfolaw05_DatetimeRoundTrip.j0 : Nat → Int → Bool → Bool → Int → Int → Int → Int → Int → Int → Int → Option (Bool)
  | 0, _, _, _, _, _, _, _, _, _, _ => none
  | k + 1, x8, x9, x35, x211000, x211001, x211002, x211003, x211004, x211005, x211006 => if x35 = true then (none) else (if x9 = true then ((datetime_Of.f x8).bind fun bt225 => (if (bt225.1 == x211000 && (bt225.2.1 == x211001 && (bt225.2.2.1 == x211002 && (bt225.2.2.2.1 == x211003 && (bt225.2.2.2.2.1 == x211004 && (bt225.2.2.2.2.2.1 == x211005 && (bt225.2.2.2.2.2.2 == x211006))))))) = true then ((zoneinforef05_Valid.f k x211000 x211001 x211002 x211003 x211004 x211005 x211006).bind fun t232 => (some t232)) else (none))) else (some (x8 == 0)))
def zoneinfolaw05_DatetimeRoundTrip.f (k : Nat) (a0 : Int) (a1_0 : Int) (a1_1 : Int) (a1_2 : Int) (a1_3 : Int) (a1_4 : Int) (a1_5 : Int) (a1_6 : Int) : Option (Bool) := (zoneinfolaw05_awake.f k).bind fun t211 => (if t211 = true then ((datetime_Of.f a0).bind fun bt212 => ((datetime_Unix.f k bt212.1 bt212.2.1 bt212.2.2.1 bt212.2.2.2.1 bt212.2.2.2.2.1 bt212.2.2.2.2.2.1 bt212.2.2.2.2.2.2).bind fun bt220 => ((datetime_Unix.f k a1_0 a1_1 a1_2 a1_3 a1_4 a1_5 a1_6).bind fun bt222 => (if bt220.2 = true then (if bt220.1 = a0 then ((zoneinforef05_Valid.f k bt212.1 bt212.2.1 bt212.2.2.1 bt212.2.2.2.1 bt212.2.2.2.2.1 bt212.2.2.2.2.2.1 bt212.2.2.2.2.2.2).bind fun t224 => (zoneinfolaw05_DatetimeRoundTrip.j0 k bt222.1 bt222.2 (!t224) a1_0 a1_1 a1_2 a1_3 a1_4 a1_5 a1_6)) else (zoneinfolaw05_DatetimeRoundTrip.j0 k bt222.1 bt222.2 true a1_0 a1_1 a1_2 a1_3 a1_4 a1_5 a1_6)) else (zoneinfolaw05_DatetimeRoundTrip.j0 k bt222.1 bt222.2 true a1_0 a1_1 a1_2 a1_3 a1_4 a1_5 a1_6))))) else (none))
theorem zoneinfolaw05_DatetimeRoundTrip.mono_l : ∀ k, (∀ y0 y1 y2 y3 y4 y5 y6 y7 y8 y9, LeO (zoneinfolaw05_DatetimeRoundTrip.j0 k y0 y1 y2 y3 y4 y5 y6 y7 y8 y9) (zoneinfolaw05_DatetimeRoundTrip.j0 (k + 1) y0 y1 y2 y3 y4 y5 y6 y7 y8 y9))
  | 0 => fun _ _ _ _ _ _ _ _ _ _ r h => by simp [zoneinfolaw05_DatetimeRoundTrip.j0] at h
  | k + 1 => by
    have ih0 := zoneinfolaw05_DatetimeRoundTrip.mono_l k
    · intro y0 y1 y2 y3 y4 y5 y6 y7 y8 y9
      unfold zoneinfolaw05_DatetimeRoundTrip.j0
      repeat' first
      | (with_reducible exact ih0 _ _ _ _ _ _ _ _ _ _)
      | (with_reducible exact datetime_Unix.mono _ _ _ _ _ _ _ _)
      | (with_reducible exact zoneinfolaw05_awake.mono _)
      | (with_reducible exact zoneinforef05_Valid.mono _ _ _ _ _ _ _ _)
      | (with_reducible exact LeO.refl _)
      | (with_reducible exact LeO.none _)
      | (with_reducible refine LeO.ite ?_ ?_)
      | (with_reducible refine LeO.bind ?_ (fun _ => ?_))
      | exact ih0 _ _ _ _ _ _ _ _ _ _
      | exact datetime_Unix.mono _ _ _ _ _ _ _ _
      | exact zoneinfolaw05_awake.mono _
      | exact zoneinforef05_Valid.mono _ _ _ _ _ _ _ _
      | exact LeO.none _
      | refine LeO.ite ?_ ?_
      | refine LeO.bind ?_ (fun _ => ?_)
theorem zoneinfolaw05_DatetimeRoundTrip.mono : ∀ a0 a1 a2 a3 a4 a5 a6 a7 k, LeO (zoneinfolaw05_DatetimeRoundTrip.f k a0 a1 a2 a3 a4 a5 a6 a7) (zoneinfolaw05_DatetimeRoundTrip.f (k + 1) a0 a1 a2 a3 a4 a5 a6 a7) := by
  intro a0 a1 a2 a3 a4 a5 a6 a7 k
  have ih0 := zoneinfolaw05_DatetimeRoundTrip.mono_l k
  unfold zoneinfolaw05_DatetimeRoundTrip.f
  repeat' first
      | (with_reducible exact ih0 _ _ _ _ _ _ _ _ _ _)
      | (with_reducible exact datetime_Unix.mono _ _ _ _ _ _ _ _)
      | (with_reducible exact zoneinfolaw05_awake.mono _)
      | (with_reducible exact zoneinforef05_Valid.mono _ _ _ _ _ _ _ _)
      | (with_reducible exact LeO.refl _)
      | (with_reducible exact LeO.none _)
      | (with_reducible refine LeO.ite ?_ ?_)
      | (with_reducible refine LeO.bind ?_ (fun _ => ?_))
      | exact ih0 _ _ _ _ _ _ _ _ _ _
      | exact datetime_Unix.mono _ _ _ _ _ _ _ _
      | exact zoneinfolaw05_awake.mono _
      | exact zoneinforef05_Valid.mono _ _ _ _ _ _ _ _
      | exact LeO.none _
      | refine LeO.ite ?_ ?_
      | refine LeO.bind ?_ (fun _ => ?_)
def zoneinfolaw05_DatetimeRoundTrip.T9 : Bool × List (List Nat × List Nat) := (true, [([], []), ([0], [0]), ([], []), ([1, 2], [1, 2]), ([3, 1], [3]), ([4], [4]), ([5, 4, 4], [4, 5]), ([4, 6], [4, 6]), ([7, 6, 0, 1, 2, 3, 4, 5, 6, 7], [7])])
def zoneinfolaw05_DatetimeRoundTrip.B9 : List Nat := [0, 1, 0, 7, 15, 31, 63, 127, 255]
theorem zoneinfolaw05_DatetimeRoundTrip.tab9 : rtab .any (opsOf Tryd.f4 9) = zoneinfolaw05_DatetimeRoundTrip.T9 := by kernel_rfl
theorem zoneinfolaw05_DatetimeRoundTrip.bits9 : waitsOk zoneinfolaw05_DatetimeRoundTrip.T9.2 zoneinfolaw05_DatetimeRoundTrip.B9 = true := by kernel_rfl
set_option maxHeartbeats 8000000 in
set_option maxRecDepth 100000 in
theorem zoneinfolaw05_DatetimeRoundTrip.calls (k : Nat) (a0 : Int) (a1_0 : Int) (a1_1 : Int) (a1_2 : Int) (a1_3 : Int) (a1_4 : Int) (a1_5 : Int) (a1_6 : Int) (r : Bool) (w : World) (hrg : GL w) (h : zoneinfolaw05_DatetimeRoundTrip.f k a0 a1_0 a1_1 a1_2 a1_3 a1_4 a1_5 a1_6 = some r) :
    Calls Tryd.prog 4 #[.int .i64 a0, .agg #[.int .i64 a1_0, .int .i64 a1_1, .int .i64 a1_2, .int .i64 a1_3, .int .i64 a1_4, .int .i64 a1_5, .int .i64 a1_6]] w fun e w' => e = .returned (.bool r) ∧ Below w.heap.size w w' := by
  have hu23 := Tryd.underlying23
  have HRg := Aside0.mk hrg
  clear hrg
  have HB := Aside0.mk (Below.refl w.heap.size w)
  have H : ((zoneinfolaw05_awake.f k).bind fun t211 => (if t211 = true then ((datetime_Of.f a0).bind fun bt212 => ((datetime_Unix.f k bt212.1 bt212.2.1 bt212.2.2.1 bt212.2.2.2.1 bt212.2.2.2.2.1 bt212.2.2.2.2.2.1 bt212.2.2.2.2.2.2).bind fun bt220 => ((datetime_Unix.f k a1_0 a1_1 a1_2 a1_3 a1_4 a1_5 a1_6).bind fun bt222 => (if bt220.2 = true then (if bt220.1 = a0 then ((zoneinforef05_Valid.f k bt212.1 bt212.2.1 bt212.2.2.1 bt212.2.2.2.1 bt212.2.2.2.2.1 bt212.2.2.2.2.2.1 bt212.2.2.2.2.2.2).bind fun t224 => (zoneinfolaw05_DatetimeRoundTrip.j0 k bt222.1 bt222.2 (!t224) a1_0 a1_1 a1_2 a1_3 a1_4 a1_5 a1_6)) else (zoneinfolaw05_DatetimeRoundTrip.j0 k bt222.1 bt222.2 true a1_0 a1_1 a1_2 a1_3 a1_4 a1_5 a1_6)) else (zoneinfolaw05_DatetimeRoundTrip.j0 k bt222.1 bt222.2 true a1_0 a1_1 a1_2 a1_3 a1_4 a1_5 a1_6))))) else (none))) = some r := h
  clear h
  replace H := Option.bind_eq_some_iff.mp H
  obtain ⟨t211, A30, H⟩ := H
  replace H : (if t211 = true then ((datetime_Of.f a0).bind fun bt212 => ((datetime_Unix.f k bt212.1 bt212.2.1 bt212.2.2.1 bt212.2.2.2.1 bt212.2.2.2.2.1 bt212.2.2.2.2.2.1 bt212.2.2.2.2.2.2).bind fun bt220 => ((datetime_Unix.f k a1_0 a1_1 a1_2 a1_3 a1_4 a1_5 a1_6).bind fun bt222 => (if bt220.2 = true then (if bt220.1 = a0 then ((zoneinforef05_Valid.f k bt212.1 bt212.2.1 bt212.2.2.1 bt212.2.2.2.1 bt212.2.2.2.2.1 bt212.2.2.2.2.2.1 bt212.2.2.2.2.2.2).bind fun t224 => (zoneinfolaw05_DatetimeRoundTrip.j0 k bt222.1 bt222.2 (!t224) a1_0 a1_1 a1_2 a1_3 a1_4 a1_5 a1_6)) else (zoneinfolaw05_DatetimeRoundTrip.j0 k bt222.1 bt222.2 true a1_0 a1_1 a1_2 a1_3 a1_4 a1_5 a1_6)) else (zoneinfolaw05_DatetimeRoundTrip.j0 k bt222.1 bt222.2 true a1_0 a1_1 a1_2 a1_3 a1_4 a1_5 a1_6))))) else (none)) = some r := H
  have A3 := Aside0.mk A30
  clear A30
  by_cases c4 : t211 = true
  · subst c4
    have H1 : ((datetime_Of.f a0).bind fun bt212 => ((datetime_Unix.f k bt212.1 bt212.2.1 bt212.2.2.1 bt212.2.2.2.1 bt212.2.2.2.2.1 bt212.2.2.2.2.2.1 bt212.2.2.2.2.2.2).bind fun bt220 => ((datetime_Unix.f k a1_0 a1_1 a1_2 a1_3 a1_4 a1_5 a1_6).bind fun bt222 => (if bt220.2 = true then (if bt220.1 = a0 then ((zoneinforef05_Valid.f k bt212.1 bt212.2.1 bt212.2.2.1 bt212.2.2.2.1 bt212.2.2.2.2.1 bt212.2.2.2.2.2.1 bt212.2.2.2.2.2.2).bind fun t224 => (zoneinfolaw05_DatetimeRoundTrip.j0 k bt222.1 bt222.2 (!t224) a1_0 a1_1 a1_2 a1_3 a1_4 a1_5 a1_6)) else (zoneinfolaw05_DatetimeRoundTrip.j0 k bt222.1 bt222.2 true a1_0 a1_1 a1_2 a1_3 a1_4 a1_5 a1_6)) else (zoneinfolaw05_DatetimeRoundTrip.j0 k bt222.1 bt222.2 true a1_0 a1_1 a1_2 a1_3 a1_4 a1_5 a1_6))))) = some r := by rw [if_pos rfl] at H; exact H
    clear H
    have H := H1
    clear H1
    replace H := Option.bind_eq_some_iff.mp H
    obtain ⟨⟨t212, t213, t214, t215, t216, t217, t218⟩, A50, H⟩ := H
    replace H : ((datetime_Unix.f k t212 t213 t214 t215 t216 t217 t218).bind fun bt220 => ((datetime_Unix.f k a1_0 a1_1 a1_2 a1_3 a1_4 a1_5 a1_6).bind fun bt222 => (if bt220.2 = true then (if bt220.1 = a0 then ((zoneinforef05_Valid.f k t212 t213 t214 t215 t216 t217 t218).bind fun t224 => (zoneinfolaw05_DatetimeRoundTrip.j0 k bt222.1 bt222.2 (!t224) a1_0 a1_1 a1_2 a1_3 a1_4 a1_5 a1_6)) else (zoneinfolaw05_DatetimeRoundTrip.j0 k bt222.1 bt222.2 true a1_0 a1_1 a1_2 a1_3 a1_4 a1_5 a1_6)) else (zoneinfolaw05_DatetimeRoundTrip.j0 k bt222.1 bt222.2 true a1_0 a1_1 a1_2 a1_3 a1_4 a1_5 a1_6)))) = some r := H
    have A5 := Aside0.mk A50
    clear A50
    replace H := Option.bind_eq_some_iff.mp H
    obtain ⟨⟨t220, t221⟩, A60, H⟩ := H
    replace H : ((datetime_Unix.f k a1_0 a1_1 a1_2 a1_3 a1_4 a1_5 a1_6).bind fun bt222 => (if t221 = true then (if t220 = a0 then ((zoneinforef05_Valid.f k t212 t213 t214 t215 t216 t217 t218).bind fun t224 => (zoneinfolaw05_DatetimeRoundTrip.j0 k bt222.1 bt222.2 (!t224) a1_0 a1_1 a1_2 a1_3 a1_4 a1_5 a1_6)) else (zoneinfolaw05_DatetimeRoundTrip.j0 k bt222.1 bt222.2 true a1_0 a1_1 a1_2 a1_3 a1_4 a1_5 a1_6)) else (zoneinfolaw05_DatetimeRoundTrip.j0 k bt222.1 bt222.2 true a1_0 a1_1 a1_2 a1_3 a1_4 a1_5 a1_6))) = some r := H
    have A6 := Aside0.mk A60
    clear A60
    replace H := Option.bind_eq_some_iff.mp H
    obtain ⟨⟨t222, t223⟩, A70, H⟩ := H
    replace H : (if t221 = true then (if t220 = a0 then ((zoneinforef05_Valid.f k t212 t213 t214 t215 t216 t217 t218).bind fun t224 => (zoneinfolaw05_DatetimeRoundTrip.j0 k t222 t223 (!t224) a1_0 a1_1 a1_2 a1_3 a1_4 a1_5 a1_6)) else (zoneinfolaw05_DatetimeRoundTrip.j0 k t222 t223 true a1_0 a1_1 a1_2 a1_3 a1_4 a1_5 a1_6)) else (zoneinfolaw05_DatetimeRoundTrip.j0 k t222 t223 true a1_0 a1_1 a1_2 a1_3 a1_4 a1_5 a1_6)) = some r := H
    have A7 := Aside0.mk A70
    clear A70
    have HC8 := Aside0.mk H
    clear H
    go_enter Tryd.func4, Tryd.ntmps4
    go_upto_region 6 with (first | ((with_reducible refine gate_dst (N := 3) rfl ?_); refine box_event ?hg (N := 3) ?hd (cs := #[.int .i64 a1_0, .int .i64 a1_1, .int .i64 a1_2, .int .i64 a1_3, .int .i64 a1_4, .int .i64 a1_5, .int .i64 a1_6]) (t := 23) ?hr ?_; (case hd => rfl); (case hg => rfl); (case hr => first | (go_simp; done) | (go_simp; rfl)); intro gb210 hg w9 hbox hb; have n0_ := Aside0.mk (below_step (by repeat (first | (with_reducible first | exact HB.out | apply below_alloc | apply pw_below_drewN | apply below_drew1) | exact HB.out)) hb); have n1_ := Aside0.mk (hbox); have n2_ := Aside0.mk ((by rw [hg]; exact (below_size (by repeat (first | (with_reducible first | exact HB.out | apply below_alloc | apply pw_below_drewN | apply below_drew1) | exact HB.out))) : w.heap.size ≤ gb210)); have n3_ := Aside0.mk ((by rw [hg]; exact (below_size (by repeat (first | (with_reducible first | exact HB.out | apply below_alloc | apply pw_below_drewN | apply below_drew1) | exact HB.out))) : w.heap.size ≤ gb210)); clear HB; have HB := n0_; have BK210 := n1_; have GW210 := n2_; have GE210 := n3_; clear n0_ n1_ n2_ n3_; clear hb hbox hg) | ((with_reducible refine gate_callee (f := 8) rfl ?_); refine goesL_ (some 10) rfl rfl Tryd.func8 (by kernel_rfl) rfl #[] rfl (by (try simp only [List.map_toArray, List.map_cons, List.map_nil]); first | done | rfl | (simp only [List.length_drop, List.length_take]; rfl)) ?_; (with_reducible refine (zoneinfolaw05_awake.calls k  true _ ?side1 A3.out).mono ?_); (case side1 => repeat (first | exact (Kd.C_below HRg.out HB.out) | (with_reducible refine Kd.C_alloc ?_ _) | (with_reducible refine Kd.C_drewN ?_ _) | (with_reducible refine Kd.C_drew ?_))); rintro e w10 ⟨rfl, hb⟩; refine ⟨_, rfl, ?_⟩; have n0_ := Aside0.mk (blk_below (g := gb210) (o := .cells #[.int .i64 a1_0, .int .i64 a1_1, .int .i64 a1_2, .int .i64 a1_3, .int .i64 a1_4, .int .i64 a1_5, .int .i64 a1_6] 23 (0, 0)) (by (with_reducible repeat (first | refine blk_drewN ?_ _ | refine blk_drew ?_ | refine blk_alloc ?_ _)); exact BK210.out) hb); have n1_ := Aside0.mk (below_step (by repeat (first | (with_reducible first | exact HB.out | apply below_alloc | apply pw_below_drewN | apply below_drew1 | refine below_set ?_ GE210.out) | exact HB.out)) hb); clear BK210; clear HB; have BK210 := n0_; have HB := n1_; clear n0_ n1_; (try clear hb); (try clear hb2); (try clear hk); (try clear hi)) | ((with_reducible refine gate_callee (f := 13) rfl ?_); refine goesL_ (some 13) rfl rfl Tryd.func13 (by kernel_rfl) rfl #[.int .i64 a0] rfl (by (try simp only [List.map_toArray, List.map_cons, List.map_nil]); first | done | rfl | (simp only [List.length_drop, List.length_take]; rfl)) ?_; (with_reducible refine (datetime_Of.calls a0 t212 t213 t214 t215 t216 t217 t218 _ A5.out).mono ?_); rintro e w11 ⟨rfl, hb⟩; refine ⟨_, rfl, ?_⟩; have n0_ := Aside0.mk (blk_below (g := gb210) (o := .cells #[.int .i64 a1_0, .int .i64 a1_1, .int .i64 a1_2, .int .i64 a1_3, .int .i64 a1_4, .int .i64 a1_5, .int .i64 a1_6] 23 (0, 0)) (by (with_reducible repeat (first | refine blk_drewN ?_ _ | refine blk_drew ?_ | refine blk_alloc ?_ _)); exact BK210.out) hb); have n1_ := Aside0.mk (below_step (by repeat (first | (with_reducible first | exact HB.out | apply below_alloc | apply pw_below_drewN | apply below_drew1 | refine below_set ?_ GE210.out) | exact HB.out)) hb); clear BK210; clear HB; have BK210 := n0_; have HB := n1_; clear n0_ n1_; (try clear hb); (try clear hb2); (try clear hk); (try clear hi)) | ((with_reducible refine gate_dst (N := 5) rfl ?_); refine box_event ?hg (N := 5) ?hd (cs := #[.int .i64 0, .int .i64 0, .int .i64 0, .int .i64 0, .int .i64 0, .int .i64 0, .int .i64 0]) (t := 23) ?hr ?_; (case hd => rfl); (case hg => rfl); (case hr => first | (go_simp; done) | (go_simp; rfl)); intro gb219 hg w12 hbox hb; have n0_ := Aside0.mk (blk_below (g := gb210) (o := .cells #[.int .i64 a1_0, .int .i64 a1_1, .int .i64 a1_2, .int .i64 a1_3, .int .i64 a1_4, .int .i64 a1_5, .int .i64 a1_6] 23 (0, 0)) (by (with_reducible repeat (first | refine blk_drewN ?_ _ | refine blk_drew ?_ | refine blk_alloc ?_ _)); exact BK210.out) hb); have n1_ := Aside0.mk (below_step (by repeat (first | (with_reducible first | exact HB.out | apply below_alloc | apply pw_below_drewN | apply below_drew1 | refine below_set ?_ GE210.out) | exact HB.out)) hb); have n2_ := Aside0.mk (hbox); have n3_ := Aside0.mk ((by rw [hg]; exact (below_size (by repeat (first | (with_reducible first | exact HB.out | apply below_alloc | apply pw_below_drewN | apply below_drew1 | refine below_set ?_ GE210.out) | exact HB.out))) : w.heap.size ≤ gb219)); have n4_ := Aside0.mk ((by rw [hg]; exact (below_size (by repeat (first | (with_reducible first | exact HB.out | apply below_alloc | apply pw_below_drewN | apply below_drew1 | refine below_set ?_ GE210.out) | exact HB.out))) : w.heap.size ≤ gb219)); have n5_ := Aside0.mk ((by rw [hg]; exact Nat.ne_of_lt (blk_lt (g := gb210) (o := .cells #[.int .i64 a1_0, .int .i64 a1_1, .int .i64 a1_2, .int .i64 a1_3, .int .i64 a1_4, .int .i64 a1_5, .int .i64 a1_6] 23 (0, 0)) (by (with_reducible repeat (first | refine blk_drewN ?_ _ | refine blk_drew ?_ | refine blk_alloc ?_ _)); exact BK210.out)) : gb210 ≠ gb219)); have n6_ := Aside0.mk ((by rw [hg]; exact Nat.ne_of_gt (blk_lt (g := gb210) (o := .cells #[.int .i64 a1_0, .int .i64 a1_1, .int .i64 a1_2, .int .i64 a1_3, .int .i64 a1_4, .int .i64 a1_5, .int .i64 a1_6] 23 (0, 0)) (by (with_reducible repeat (first | refine blk_drewN ?_ _ | refine blk_drew ?_ | refine blk_alloc ?_ _)); exact BK210.out)) : gb219 ≠ gb210)); clear BK210; clear HB; have BK210 := n0_; have HB := n1_; have BK219 := n2_; have GW219 := n3_; have GE219 := n4_; have NB210_219 := n5_; have NB219_210 := n6_; clear n0_ n1_ n2_ n3_ n4_ n5_ n6_; clear hb hbox hg; have hnb13 := NB219_210.out; have hnc13 := NB210_219.out; have hcz14_0 : w12.cell? ⟨gb219, 0, none⟩ = some (.int .i64 0) := (blk_cell BK219.out 0).trans rfl; have hcz14_1 : w12.cell? ⟨gb219, 1, none⟩ = some (.int .i64 0) := (blk_cell BK219.out 1).trans rfl; have hcz14_2 : w12.cell? ⟨gb219, 2, none⟩ = some (.int .i64 0) := (blk_cell BK219.out 2).trans rfl; have hcz14_3 : w12.cell? ⟨gb219, 3, none⟩ = some (.int .i64 0) := (blk_cell BK219.out 3).trans rfl; have hcz14_4 : w12.cell? ⟨gb219, 4, none⟩ = some (.int .i64 0) := (blk_cell BK219.out 4).trans rfl; have hcz14_5 : w12.cell? ⟨gb219, 5, none⟩ = some (.int .i64 0) := (blk_cell BK219.out 5).trans rfl; have hcz14_6 : w12.cell? ⟨gb219, 6, none⟩ = some (.int .i64 0) := (blk_cell BK219.out 6).trans rfl; have hfz14_0 := blk_frozen BK219.out 0; have hfz14_1 := blk_frozen BK219.out 1; have hfz14_2 := blk_frozen BK219.out 2; have hfz14_3 := blk_frozen BK219.out 3; have hfz14_4 := blk_frozen BK219.out 4; have hfz14_5 := blk_frozen BK219.out 5; have hfz14_6 := blk_frozen BK219.out 6) | ((with_reducible refine gate_callee (f := 11) rfl ?_); refine goesL_ (some 16) rfl rfl Tryd.func11 (by kernel_rfl) rfl #[.agg #[.int .i64 t212, .int .i64 t213, .int .i64 t214, .int .i64 t215, .int .i64 t216, .int .i64 t217, .int .i64 t218]] rfl (by (try simp only [List.map_toArray, List.map_cons, List.map_nil]); first | done | rfl | (simp only [List.length_drop, List.length_take]; rfl)) ?_; (with_reducible refine (datetime_Unix.calls k t212 t213 t214 t215 t216 t217 t218 t220 t221 _ ?side1 A6.out).mono ?_); (case side1 => exact Kd.C_below HRg.out (by repeat (first | (with_reducible first | exact HB.out | apply below_alloc | apply pw_below_drewN | apply below_drew1 | refine below_set ?_ GE210.out | refine below_set ?_ GE219.out) | exact HB.out))); rintro e w15 ⟨rfl, hb⟩; refine ⟨_, rfl, ?_⟩; have n0_ := Aside0.mk (blk_below (g := gb210) (o := .cells #[.int .i64 a1_0, .int .i64 a1_1, .int .i64 a1_2, .int .i64 a1_3, .int .i64 a1_4, .int .i64 a1_5, .int .i64 a1_6] 23 (0, 0)) (by (with_reducible repeat (first | refine blk_drewN ?_ _ | refine blk_drew ?_ | refine blk_alloc ?_ _)); refine blk_far ?_ NB210_219.out _; (with_reducible repeat (first | refine blk_drewN ?_ _ | refine blk_drew ?_ | refine blk_alloc ?_ _)); refine blk_far ?_ NB210_219.out _; (with_reducible repeat (first | refine blk_drewN ?_ _ | refine blk_drew ?_ | refine blk_alloc ?_ _)); refine blk_far ?_ NB210_219.out _; (with_reducible repeat (first | refine blk_drewN ?_ _ | refine blk_drew ?_ | refine blk_alloc ?_ _)); refine blk_far ?_ NB210_219.out _; (with_reducible repeat (first | refine blk_drewN ?_ _ | refine blk_drew ?_ | refine blk_alloc ?_ _)); refine blk_far ?_ NB210_219.out _; (with_reducible repeat (first | refine blk_drewN ?_ _ | refine blk_drew ?_ | refine blk_alloc ?_ _)); refine blk_far ?_ NB210_219.out _; (with_reducible repeat (first | refine blk_drewN ?_ _ | refine blk_drew ?_ | refine blk_alloc ?_ _)); refine blk_far ?_ NB210_219.out _; (with_reducible repeat (first | refine blk_drewN ?_ _ | refine blk_drew ?_ | refine blk_alloc ?_ _)); exact BK210.out) hb); have n1_ := Aside0.mk (blk_below (g := gb219) (o := .cells #[.int .i64 t212, .int .i64 t213, .int .i64 t214, .int .i64 t215, .int .i64 t216, .int .i64 t217, .int .i64 t218] 23 (0, 0)) (by (with_reducible repeat (first | refine blk_drewN ?_ _ | refine blk_drew ?_ | refine blk_alloc ?_ _)); refine blk_put (cs := #[.int .i64 t212, .int .i64 t213, .int .i64 t214, .int .i64 t215, .int .i64 t216, .int .i64 t217, .int .i64 0]) ?_ 6 _ rfl; (with_reducible repeat (first | refine blk_drewN ?_ _ | refine blk_drew ?_ | refine blk_alloc ?_ _)); refine blk_put (cs := #[.int .i64 t212, .int .i64 t213, .int .i64 t214, .int .i64 t215, .int .i64 t216, .int .i64 0, .int .i64 0]) ?_ 5 _ rfl; (with_reducible repeat (first | refine blk_drewN ?_ _ | refine blk_drew ?_ | refine blk_alloc ?_ _)); refine blk_put (cs := #[.int .i64 t212, .int .i64 t213, .int .i64 t214, .int .i64 t215, .int .i64 0, .int .i64 0, .int .i64 0]) ?_ 4 _ rfl; (with_reducible repeat (first | refine blk_drewN ?_ _ | refine blk_drew ?_ | refine blk_alloc ?_ _)); refine blk_put (cs := #[.int .i64 t212, .int .i64 t213, .int .i64 t214, .int .i64 0, .int .i64 0, .int .i64 0, .int .i64 0]) ?_ 3 _ rfl; (with_reducible repeat (first | refine blk_drewN ?_ _ | refine blk_drew ?_ | refine blk_alloc ?_ _)); refine blk_put (cs := #[.int .i64 t212, .int .i64 t213, .int .i64 0, .int .i64 0, .int .i64 0, .int .i64 0, .int .i64 0]) ?_ 2 _ rfl; (with_reducible repeat (first | refine blk_drewN ?_ _ | refine blk_drew ?_ | refine blk_alloc ?_ _)); refine blk_put (cs := #[.int .i64 t212, .int .i64 0, .int .i64 0, .int .i64 0, .int .i64 0, .int .i64 0, .int .i64 0]) ?_ 1 _ rfl; (with_reducible repeat (first | refine blk_drewN ?_ _ | refine blk_drew ?_ | refine blk_alloc ?_ _)); refine blk_put (cs := #[.int .i64 0, .int .i64 0, .int .i64 0, .int .i64 0, .int .i64 0, .int .i64 0, .int .i64 0]) ?_ 0 _ rfl; (with_reducible repeat (first | refine blk_drewN ?_ _ | refine blk_drew ?_ | refine blk_alloc ?_ _)); exact BK219.out) hb); have n2_ := Aside0.mk (below_step (by repeat (first | (with_reducible first | exact HB.out | apply below_alloc | apply pw_below_drewN | apply below_drew1 | refine below_set ?_ GE210.out | refine below_set ?_ GE219.out) | exact HB.out)) hb); clear BK210; clear BK219; clear HB; have BK210 := n0_; have BK219 := n1_; have HB := n2_; clear n0_ n1_ n2_; (try clear hb); (try clear hb2); (try clear hk); (try clear hi); have hcz16_0 : w15.cell? ⟨gb210, 0, none⟩ = some (.int .i64 a1_0) := (blk_cell BK210.out 0).trans rfl; have hcz16_1 : w15.cell? ⟨gb210, 1, none⟩ = some (.int .i64 a1_1) := (blk_cell BK210.out 1).trans rfl; have hcz16_2 : w15.cell? ⟨gb210, 2, none⟩ = some (.int .i64 a1_2) := (blk_cell BK210.out 2).trans rfl; have hcz16_3 : w15.cell? ⟨gb210, 3, none⟩ = some (.int .i64 a1_3) := (blk_cell BK210.out 3).trans rfl; have hcz16_4 : w15.cell? ⟨gb210, 4, none⟩ = some (.int .i64 a1_4) := (blk_cell BK210.out 4).trans rfl; have hcz16_5 : w15.cell? ⟨gb210, 5, none⟩ = some (.int .i64 a1_5) := (blk_cell BK210.out 5).trans rfl; have hcz16_6 : w15.cell? ⟨gb210, 6, none⟩ = some (.int .i64 a1_6) := (blk_cell BK210.out 6).trans rfl; have hfz16_0 := blk_frozen BK210.out 0; have hfz16_1 := blk_frozen BK210.out 1; have hfz16_2 := blk_frozen BK210.out 2; have hfz16_3 := blk_frozen BK210.out 3; have hfz16_4 := blk_frozen BK210.out 4; have hfz16_5 := blk_frozen BK210.out 5; have hfz16_6 := blk_frozen BK210.out 6) | ((with_reducible refine gate_callee (f := 11) rfl ?_); refine goesL_ (some 21) rfl rfl Tryd.func11 (by kernel_rfl) rfl #[.agg #[.int .i64 a1_0, .int .i64 a1_1, .int .i64 a1_2, .int .i64 a1_3, .int .i64 a1_4, .int .i64 a1_5, .int .i64 a1_6]] rfl (by (try simp only [List.map_toArray, List.map_cons, List.map_nil]); first | done | rfl | (simp only [List.length_drop, List.length_take]; rfl)) ?_; (with_reducible refine (datetime_Unix.calls k a1_0 a1_1 a1_2 a1_3 a1_4 a1_5 a1_6 t222 t223 _ ?side1 A7.out).mono ?_); (case side1 => repeat (first | exact (Kd.C_below HRg.out HB.out) | (with_reducible refine Kd.C_alloc ?_ _) | (with_reducible refine Kd.C_drewN ?_ _) | (with_reducible refine Kd.C_drew ?_))); rintro e w17 ⟨rfl, hb⟩; refine ⟨_, rfl, ?_⟩; have n0_ := Aside0.mk (blk_below (g := gb210) (o := .cells #[.int .i64 a1_0, .int .i64 a1_1, .int .i64 a1_2, .int .i64 a1_3, .int .i64 a1_4, .int .i64 a1_5, .int .i64 a1_6] 23 (0, 0)) (by (with_reducible repeat (first | refine blk_drewN ?_ _ | refine blk_drew ?_ | refine blk_alloc ?_ _)); exact BK210.out) hb); have n1_ := Aside0.mk (blk_below (g := gb219) (o := .cells #[.int .i64 t212, .int .i64 t213, .int .i64 t214, .int .i64 t215, .int .i64 t216, .int .i64 t217, .int .i64 t218] 23 (0, 0)) (by (with_reducible repeat (first | refine blk_drewN ?_ _ | refine blk_drew ?_ | refine blk_alloc ?_ _)); exact BK219.out) hb); have n2_ := Aside0.mk (below_step (by repeat (first | (with_reducible first | exact HB.out | apply below_alloc | apply pw_below_drewN | apply below_drew1 | refine below_set ?_ GE210.out | refine below_set ?_ GE219.out) | exact HB.out)) hb); clear BK210; clear BK219; clear HB; have BK210 := n0_; have BK219 := n1_; have HB := n2_; clear n0_ n1_ n2_; (try clear hb); (try clear hb2); (try clear hk); (try clear hi)))
    (try simp only [Act.put, List.setIfInBounds_toArray, List.set_cons_zero, List.set_cons_succ])
    go_cut [35] (fun v35 wc => ∃ (kq : Nat) (x35_7 : Bool), v35 = .bool x35_7 ∧ Aside0 (zoneinfolaw05_DatetimeRoundTrip.j0 kq t222 t223 x35_7 a1_0 a1_1 a1_2 a1_3 a1_4 a1_5 a1_6 = some r) ∧ Aside0 (kq ≤ k) ∧ Aside0 (wc.heap[gb210]? = some (.cells #[.int .i64 a1_0, .int .i64 a1_1, .int .i64 a1_2, .int .i64 a1_3, .int .i64 a1_4, .int .i64 a1_5, .int .i64 a1_6] 23 (0, 0))) ∧ Aside0 (wc.heap[gb219]? = some (.cells #[.int .i64 t212, .int .i64 t213, .int .i64 t214, .int .i64 t215, .int .i64 t216, .int .i64 t217, .int .i64 t218] 23 (0, 0))) ∧ Aside0 (Below w.heap.size w wc))
    case first =>
      have H := HC8.out
      clear HC8
      by_cases c18 : t221 = true
      · subst c18
        have H1 : (if t220 = a0 then ((zoneinforef05_Valid.f k t212 t213 t214 t215 t216 t217 t218).bind fun t224 => (zoneinfolaw05_DatetimeRoundTrip.j0 k t222 t223 (!t224) a1_0 a1_1 a1_2 a1_3 a1_4 a1_5 a1_6)) else (zoneinfolaw05_DatetimeRoundTrip.j0 k t222 t223 true a1_0 a1_1 a1_2 a1_3 a1_4 a1_5 a1_6)) = some r := by rw [if_pos rfl] at H; exact H
        clear H
        have H := H1
        clear H1
        by_cases c19 : t220 = a0
        · rw [if_pos c19] at H
          have c19b0 : (t220 == a0) = true := beq_iff_eq.mpr c19
          have c19b1 : (t220 != a0) = false := bne_eq_false_iff_eq.mpr c19
          clear c19
          (first | rw [c19b0] | (simp only [i64_w, i32_w]; rw [c19b0]) | skip)
          replace H := Option.bind_eq_some_iff.mp H
          obtain ⟨t224, A200, H⟩ := H
          replace H : (zoneinfolaw05_DatetimeRoundTrip.j0 k t222 t223 (!t224) a1_0 a1_1 a1_2 a1_3 a1_4 a1_5 a1_6) = some r := H
          have A20 := Aside0.mk A200
          clear A200
          have H' := Aside0.mk H
          clear H
          have hnb21 := NB219_210.out
          have hnc21 := NB210_219.out
          have hcz22_0 : w17.cell? ⟨gb219, 0, none⟩ = some (.int .i64 t212) := (blk_cell BK219.out 0).trans rfl
          have hcz22_1 : w17.cell? ⟨gb219, 1, none⟩ = some (.int .i64 t213) := (blk_cell BK219.out 1).trans rfl
          have hcz22_2 : w17.cell? ⟨gb219, 2, none⟩ = some (.int .i64 t214) := (blk_cell BK219.out 2).trans rfl
          have hcz22_3 : w17.cell? ⟨gb219, 3, none⟩ = some (.int .i64 t215) := (blk_cell BK219.out 3).trans rfl
          have hcz22_4 : w17.cell? ⟨gb219, 4, none⟩ = some (.int .i64 t216) := (blk_cell BK219.out 4).trans rfl
          have hcz22_5 : w17.cell? ⟨gb219, 5, none⟩ = some (.int .i64 t217) := (blk_cell BK219.out 5).trans rfl
          have hcz22_6 : w17.cell? ⟨gb219, 6, none⟩ = some (.int .i64 t218) := (blk_cell BK219.out 6).trans rfl
          have hfz22_0 := blk_frozen BK219.out 0
          have hfz22_1 := blk_frozen BK219.out 1
          have hfz22_2 := blk_frozen BK219.out 2
          have hfz22_3 := blk_frozen BK219.out 3
          have hfz22_4 := blk_frozen BK219.out 4
          have hfz22_5 := blk_frozen BK219.out 5
          have hfz22_6 := blk_frozen BK219.out 6
          go_wp2_with (first | (go_at_call 16; (with_reducible refine (zoneinforef05_Valid.calls k t212 t213 t214 t215 t216 t217 t218 t224 _ A20.out).mono ?_); rintro e w23 ⟨rfl, hb⟩; have n0_ := Aside0.mk (blk_below (g := gb210) (o := .cells #[.int .i64 a1_0, .int .i64 a1_1, .int .i64 a1_2, .int .i64 a1_3, .int .i64 a1_4, .int .i64 a1_5, .int .i64 a1_6] 23 (0, 0)) (by (with_reducible repeat (first | refine blk_drewN ?_ _ | refine blk_drew ?_ | refine blk_alloc ?_ _)); exact BK210.out) hb); have n1_ := Aside0.mk (blk_below (g := gb219) (o := .cells #[.int .i64 t212, .int .i64 t213, .int .i64 t214, .int .i64 t215, .int .i64 t216, .int .i64 t217, .int .i64 t218] 23 (0, 0)) (by (with_reducible repeat (first | refine blk_drewN ?_ _ | refine blk_drew ?_ | refine blk_alloc ?_ _)); exact BK219.out) hb); have n2_ := Aside0.mk (below_step (by repeat (first | (with_reducible first | exact HB.out | apply below_alloc | apply pw_below_drewN | apply below_drew1 | refine below_set ?_ GE210.out | refine below_set ?_ GE219.out) | exact HB.out)) hb); clear BK210; clear BK219; clear HB; have BK210 := n0_; have BK219 := n1_; have HB := n2_; clear n0_ n1_ n2_; (try clear hb); (try clear hb2); (try clear hk); (try clear hi)))
          go_meet
          case rel => exact ⟨_, (!t224), (by first | rfl | (simp; done) | (simp [*]; done)), H', ⟨by first | omega | exact Nat.le_refl _⟩, ⟨by (with_reducible repeat (first | refine blk_drewN ?_ _ | refine blk_drew ?_ | refine blk_alloc ?_ _)); exact BK210.out⟩, ⟨by (with_reducible repeat (first | refine blk_drewN ?_ _ | refine blk_drew ?_ | refine blk_alloc ?_ _)); exact BK219.out⟩, ⟨by repeat (first | (with_reducible first | exact HB.out | apply below_alloc | apply pw_below_drewN | apply below_drew1 | refine below_set ?_ GE210.out | refine below_set ?_ GE219.out) | exact HB.out)⟩⟩
        · rw [if_neg c19] at H
          have c19b0 : (t220 == a0) = false := beq_eq_false_iff_ne.mpr c19
          have c19b1 : (t220 != a0) = true := bne_iff_ne.mpr c19
          (first | rw [c19b0] | (simp only [i64_w, i32_w]; rw [c19b0]) | skip)
          have H' := Aside0.mk H
          clear H
          go_wp2
          go_meet
          case rel => exact ⟨_, (true), (by first | rfl | (simp; done) | (simp [*]; done)), H', ⟨by first | omega | exact Nat.le_refl _⟩, ⟨by (with_reducible repeat (first | refine blk_drewN ?_ _ | refine blk_drew ?_ | refine blk_alloc ?_ _)); exact BK210.out⟩, ⟨by (with_reducible repeat (first | refine blk_drewN ?_ _ | refine blk_drew ?_ | refine blk_alloc ?_ _)); exact BK219.out⟩, ⟨by repeat (first | (with_reducible first | exact HB.out | apply below_alloc | apply pw_below_drewN | apply below_drew1 | refine below_set ?_ GE210.out | refine below_set ?_ GE219.out) | exact HB.out)⟩⟩
      · replace c18 := Bool.eq_false_iff.mpr c18
        subst c18
        have H1 : (zoneinfolaw05_DatetimeRoundTrip.j0 k t222 t223 true a1_0 a1_1 a1_2 a1_3 a1_4 a1_5 a1_6) = some r := by rw [if_neg (show ¬ (false = true) by decide)] at H; exact H
        clear H
        have H := H1
        clear H1
        have H' := Aside0.mk H
        clear H
        go_wp2
        go_meet
        case rel => exact ⟨_, (true), (by first | rfl | (simp; done) | (simp [*]; done)), H', ⟨by first | omega | exact Nat.le_refl _⟩, ⟨by (with_reducible repeat (first | refine blk_drewN ?_ _ | refine blk_drew ?_ | refine blk_alloc ?_ _)); exact BK210.out⟩, ⟨by (with_reducible repeat (first | refine blk_drewN ?_ _ | refine blk_drew ?_ | refine blk_alloc ?_ _)); exact BK219.out⟩, ⟨by repeat (first | (with_reducible first | exact HB.out | apply below_alloc | apply pw_below_drewN | apply below_drew1 | refine below_set ?_ GE210.out | refine below_set ?_ GE219.out) | exact HB.out)⟩⟩
    case rest =>
      clear HC8
      try clear c1
      try clear c2
      try clear p2
      try clear c4
      try clear c8
      try clear c11
      try clear c13
      try clear c18
      try clear c19
      try clear c19b0
      try clear c19b1
      try clear c21
      try clear hcz14_0
      try clear hcz14_1
      try clear hcz14_2
      try clear hcz14_3
      try clear hcz14_4
      try clear hcz14_5
      try clear hcz14_6
      try clear hcz16_0
      try clear hcz16_1
      try clear hcz16_2
      try clear hcz16_3
      try clear hcz16_4
      try clear hcz16_5
      try clear hcz16_6
      try clear hcz22_0
      try clear hcz22_1
      try clear hcz22_2
      try clear hcz22_3
      try clear hcz22_4
      try clear hcz22_5
      try clear hcz22_6
      try clear hfz14_0
      try clear hfz14_1
      try clear hfz14_2
      try clear hfz14_3
      try clear hfz14_4
      try clear hfz14_5
      try clear hfz14_6
      try clear hfz16_0
      try clear hfz16_1
      try clear hfz16_2
      try clear hfz16_3
      try clear hfz16_4
      try clear hfz16_5
      try clear hfz16_6
      try clear hfz22_0
      try clear hfz22_1
      try clear hfz22_2
      try clear hfz22_3
      try clear hfz22_4
      try clear hfz22_5
      try clear hfz22_6
      obtain ⟨kq, x35_7, rfl, HA, HJ7, BK210, BK219, HB⟩ := hcut
      cases kq with
      | zero => exact absurd HA.out (by simp [zoneinfolaw05_DatetimeRoundTrip.j0])
      | succ kj7 =>
        have H := HA.out
        clear HA
        simp only [zoneinfolaw05_DatetimeRoundTrip.j0] at H
        by_cases c24 : x35_7 = true
        · subst c24
          have H1 : (none) = some r := by rw [if_pos rfl] at H; exact H
          clear H
          have H := H1
          clear H1
          exact absurd H (by simp)
        · replace c24 := Bool.eq_false_iff.mpr c24
          subst c24
          have H1 : (if t223 = true then ((datetime_Of.f t222).bind fun bt225 => (if (bt225.1 == a1_0 && (bt225.2.1 == a1_1 && (bt225.2.2.1 == a1_2 && (bt225.2.2.2.1 == a1_3 && (bt225.2.2.2.2.1 == a1_4 && (bt225.2.2.2.2.2.1 == a1_5 && (bt225.2.2.2.2.2.2 == a1_6))))))) = true then ((zoneinforef05_Valid.f kj7 a1_0 a1_1 a1_2 a1_3 a1_4 a1_5 a1_6).bind fun t232 => (some t232)) else (none))) else (some (t222 == 0))) = some r := by rw [if_neg (show ¬ (false = true) by decide)] at H; exact H
          clear H
          have H := H1
          clear H1
          by_cases c25 : t223 = true
          · subst c25
            have H1 : ((datetime_Of.f t222).bind fun bt225 => (if (bt225.1 == a1_0 && (bt225.2.1 == a1_1 && (bt225.2.2.1 == a1_2 && (bt225.2.2.2.1 == a1_3 && (bt225.2.2.2.2.1 == a1_4 && (bt225.2.2.2.2.2.1 == a1_5 && (bt225.2.2.2.2.2.2 == a1_6))))))) = true then ((zoneinforef05_Valid.f kj7 a1_0 a1_1 a1_2 a1_3 a1_4 a1_5 a1_6).bind fun t232 => (some t232)) else (none))) = some r := by rw [if_pos rfl] at H; exact H
            clear H
            have H := H1
            clear H1
            replace H := Option.bind_eq_some_iff.mp H
            obtain ⟨⟨t225, t226, t227, t228, t229, t230, t231⟩, A260, H⟩ := H
            replace H : (if (t225 == a1_0 && (t226 == a1_1 && (t227 == a1_2 && (t228 == a1_3 && (t229 == a1_4 && (t230 == a1_5 && (t231 == a1_6))))))) = true then ((zoneinforef05_Valid.f kj7 a1_0 a1_1 a1_2 a1_3 a1_4 a1_5 a1_6).bind fun t232 => (some t232)) else (none)) = some r := H
            have A26 := Aside0.mk A260
            clear A260
            by_cases c27 : (t225 == a1_0 && (t226 == a1_1 && (t227 == a1_2 && (t228 == a1_3 && (t229 == a1_4 && (t230 == a1_5 && (t231 == a1_6))))))) = true
            · rw [if_pos c27] at H
              have c27b0 : (t225 == a1_0 && (t226 == a1_1 && (t227 == a1_2 && (t228 == a1_3 && (t229 == a1_4 && (t230 == a1_5 && (t231 == a1_6))))))) = true := c27
              (try (have c27b1 : decide (t225 = a1_0 && (t226 == a1_1 && (t227 == a1_2 && (t228 == a1_3 && (t229 == a1_4 && (t230 == a1_5 && (t231 == a1_6))))))) = true := by simpa using c27))
              (try (have c27b2 : (t225 == a1_0 && (t226 == a1_1 && (t227 == a1_2 && (t228 == a1_3 && (t229 == a1_4 && (t230 == a1_5 && (t231 == a1_6))))))) = true := by simpa using c27))
              clear c27
              replace H := Option.bind_eq_some_iff.mp H
              obtain ⟨t232, A280, H⟩ := H
              replace H : (some t232) = some r := H
              have A28 := Aside0.mk A280
              clear A280
              obtain rfl := Option.some.inj H
              try go_wp2
              have n0_ := Aside0.mk (blk_drew BK210.out)
              have n1_ := Aside0.mk (blk_drew BK219.out)
              have n2_ := Aside0.mk (below_drew1 HB.out)
              clear BK210
              clear BK219
              clear HB
              have BK210 := n0_
              have BK219 := n1_
              have HB := n2_
              clear n0_ n1_ n2_
              refine start_ (n := 9) (S := fun w' => w'.cell? ⟨gb210, 0, none⟩ = some (.int .i64 a1_0) ∧ w'.cell? ⟨gb210, 1, none⟩ = some (.int .i64 a1_1) ∧ w'.cell? ⟨gb210, 2, none⟩ = some (.int .i64 a1_2) ∧ w'.cell? ⟨gb210, 3, none⟩ = some (.int .i64 a1_3) ∧ w'.cell? ⟨gb210, 4, none⟩ = some (.int .i64 a1_4) ∧ w'.cell? ⟨gb210, 5, none⟩ = some (.int .i64 a1_5) ∧ w'.cell? ⟨gb210, 6, none⟩ = some (.int .i64 a1_6)) (ds := []) #[false, false, false, false, false, false, false, false, false] (by kernel_rfl) rfl rfl ⟨(blk_cell BK210.out 0).trans rfl, (blk_cell BK210.out 1).trans rfl, (blk_cell BK210.out 2).trans rfl, (blk_cell BK210.out 3).trans rfl, (blk_cell BK210.out 4).trans rfl, (blk_cell BK210.out 5).trans rfl, (blk_cell BK210.out 6).trans rfl⟩ (fun hHeld => ?_); refine with_tabW zoneinfolaw05_DatetimeRoundTrip.tab9 zoneinfolaw05_DatetimeRoundTrip.bits9 (fun HT_ HW_ => ?_)
              generalize wc.drew = w29 at BK210 BK219 HB hHeld ⊢
              refine pure_ (i := 0) (N := some 37) (v := ?_) (a' := ?_) #[true, false, false, false, false, false, false, false, false] rfl rfl (any_of HT_.out (by kernel_rfl)) (fun _ _ _ h => h) (Or.inl ⟨by rfl, ?_⟩) ?_ ?_
              rotate_left
              · intro w'
                go_simp
                with_reducible rfl
              rotate_left
              · simp only [Act.put, List.setIfInBounds_toArray, List.set_cons_zero, List.set_cons_succ, i64_w, i32_w]
                rfl
              refine take_ (i := 2) (N := some 39) (v := ?_) (a' := ?_) #[true, false, true, false, false, false, false, false, false] rfl rfl (take_ofW HT_.out HW_.out (by kernel_rfl)) (fun _ _ _ h => h) (Or.inl ⟨by rfl, ?_⟩) hHeld ?_ ?_
              rotate_left
              · rintro w' ⟨s0, s1, s2, s3, s4, s5, s6⟩
                go_simp
                with_reducible rfl
              rotate_left
              · simp only [Act.put, List.setIfInBounds_toArray, List.set_cons_zero, List.set_cons_succ, i64_w, i32_w]
                rfl
              refine one_ (i := 1) (N := some 38) #[true, true, true, false, false, false, false, false, false] rfl rfl (one_of HT_.out (by kernel_rfl)) (by decide) (fun K hK => ?_)
              refine goes_ Tryd.func13 (by kernel_rfl) rfl #[.int .i64 t222] (by rfl) rfl rfl (by (try simp only [List.map_toArray, List.map_cons, List.map_nil]); first | done | rfl | (simp only [List.length_drop, List.length_take]; rfl)) ?_
              with_reducible refine (datetime_Of.calls t222 t225 t226 t227 t228 t229 t230 t231 _ A26.out).mono ?_
              rintro e w30 ⟨rfl, hb⟩
              refine ⟨_, rfl, ?_⟩
              have n0_ := Aside0.mk (blk_below (g := gb210) (o := .cells #[.int .i64 a1_0, .int .i64 a1_1, .int .i64 a1_2, .int .i64 a1_3, .int .i64 a1_4, .int .i64 a1_5, .int .i64 a1_6] 23 (0, 0)) (by (with_reducible repeat (first | refine blk_drewN ?_ _ | refine blk_drew ?_ | refine blk_alloc ?_ _)); exact BK210.out) hb)
              have n1_ := Aside0.mk (blk_below (g := gb219) (o := .cells #[.int .i64 t212, .int .i64 t213, .int .i64 t214, .int .i64 t215, .int .i64 t216, .int .i64 t217, .int .i64 t218] 23 (0, 0)) (by (with_reducible repeat (first | refine blk_drewN ?_ _ | refine blk_drew ?_ | refine blk_alloc ?_ _)); exact BK219.out) hb)
              have n2_ := Aside0.mk (below_step (by repeat (first | (with_reducible first | exact HB.out | apply below_alloc | apply pw_below_drewN | apply below_drew1 | refine below_set ?_ GE210.out | refine below_set ?_ GE219.out) | exact HB.out)) hb)
              clear BK210
              clear BK219
              clear HB
              have BK210 := n0_
              have BK219 := n1_
              have HB := n2_
              clear n0_ n1_ n2_
              (try clear hb)
              (try clear hb2)
              (try clear hk)
              (try clear hi)
              refine hK.out _ _ ⟨(blk_cell BK210.out 0).trans rfl, (blk_cell BK210.out 1).trans rfl, (blk_cell BK210.out 2).trans rfl, (blk_cell BK210.out 3).trans rfl, (blk_cell BK210.out 4).trans rfl, (blk_cell BK210.out 5).trans rfl, (blk_cell BK210.out 6).trans rfl⟩ (fun hHeld => ?_)
              clear hK K
              refine norm_ (a' := ?_) ?_ ?_
              rotate_left
              · show Act.put _ (some 38) _ = _
                simp only [Act.put, List.setIfInBounds_toArray, List.set_cons_zero, List.set_cons_succ, i64_w, i32_w]
                rfl
              refine pure_ (i := 3) (N := some 40) (v := ?_) (a' := ?_) #[true, true, true, true, false, false, false, false, false] rfl rfl (any_of HT_.out (by kernel_rfl)) (fun _ _ _ h => h) (Or.inl ⟨by rfl, ?_⟩) ?_ ?_
              rotate_left
              · intro w'
                go_simp
                with_reducible rfl
              rotate_left
              · simp only [Act.put, List.setIfInBounds_toArray, List.set_cons_zero, List.set_cons_succ, i64_w, i32_w]
                rfl
              refine pure_ (i := 4) (N := some 41) (v := ?_) (a' := ?_) #[true, true, true, true, true, false, false, false, false] rfl rfl (any_of HT_.out (by kernel_rfl)) (fun _ _ _ h => h) (Or.inl ⟨by rfl, ?_⟩) ?_ ?_
              rotate_left
              · intro w'
                go_simp
                with_reducible rfl
              rotate_left
              · simp only [Act.put, List.setIfInBounds_toArray, List.set_cons_zero, List.set_cons_succ, i64_w, i32_w]
                rfl
              refine take_ (i := 5) (N := some 42) (v := ?_) (a' := ?_) #[true, true, true, true, true, true, false, false, false] rfl rfl (take_ofW HT_.out HW_.out (by kernel_rfl)) (fun _ _ _ h => h) (Or.inl ⟨by rfl, ?_⟩) hHeld ?_ ?_
              rotate_left
              · rintro w' ⟨s0, s1, s2, s3, s4, s5, s6⟩
                go_simp
                with_reducible rfl
              rotate_left
              · simp only [Act.put, List.setIfInBounds_toArray, List.set_cons_zero, List.set_cons_succ, i64_w, i32_w]
                rfl
              refine one_ (i := 6) (N := some 43) #[true, true, true, true, true, true, true, false, false] rfl rfl (one_of HT_.out (by kernel_rfl)) (by decide) (fun K hK => ?_)
              refine goes_ Tryd.func16 (by kernel_rfl) rfl #[.agg #[.int .i64 a1_0, .int .i64 a1_1, .int .i64 a1_2, .int .i64 a1_3, .int .i64 a1_4, .int .i64 a1_5, .int .i64 a1_6]] (by rfl) rfl rfl (by (try simp only [List.map_toArray, List.map_cons, List.map_nil]); first | done | rfl | (simp only [List.length_drop, List.length_take]; rfl)) ?_
              with_reducible refine (zoneinforef05_Valid.calls kj7 a1_0 a1_1 a1_2 a1_3 a1_4 a1_5 a1_6 t232 _ A28.out).mono ?_
              rintro e w31 ⟨rfl, hb⟩
              refine ⟨_, rfl, ?_⟩
              have n0_ := Aside0.mk (blk_below (g := gb210) (o := .cells #[.int .i64 a1_0, .int .i64 a1_1, .int .i64 a1_2, .int .i64 a1_3, .int .i64 a1_4, .int .i64 a1_5, .int .i64 a1_6] 23 (0, 0)) (by (with_reducible repeat (first | refine blk_drewN ?_ _ | refine blk_drew ?_ | refine blk_alloc ?_ _)); exact BK210.out) hb)
              have n1_ := Aside0.mk (blk_below (g := gb219) (o := .cells #[.int .i64 t212, .int .i64 t213, .int .i64 t214, .int .i64 t215, .int .i64 t216, .int .i64 t217, .int .i64 t218] 23 (0, 0)) (by (with_reducible repeat (first | refine blk_drewN ?_ _ | refine blk_drew ?_ | refine blk_alloc ?_ _)); exact BK219.out) hb)
              have n2_ := Aside0.mk (below_step (by repeat (first | (with_reducible first | exact HB.out | apply below_alloc | apply pw_below_drewN | apply below_drew1 | refine below_set ?_ GE210.out | refine below_set ?_ GE219.out) | exact HB.out)) hb)
              clear BK210
              clear BK219
              clear HB
              have BK210 := n0_
              have BK219 := n1_
              have HB := n2_
              clear n0_ n1_ n2_
              (try clear hb)
              (try clear hb2)
              (try clear hk)
              (try clear hi)
              refine hK.out _ _ ⟨(blk_cell BK210.out 0).trans rfl, (blk_cell BK210.out 1).trans rfl, (blk_cell BK210.out 2).trans rfl, (blk_cell BK210.out 3).trans rfl, (blk_cell BK210.out 4).trans rfl, (blk_cell BK210.out 5).trans rfl, (blk_cell BK210.out 6).trans rfl⟩ (fun hHeld => ?_)
              clear hK K
              refine norm_ (a' := ?_) ?_ ?_
              rotate_left
              · show Act.put _ (some 43) _ = _
                simp only [Act.put, List.setIfInBounds_toArray, List.set_cons_zero, List.set_cons_succ, i64_w, i32_w]
                rfl
              refine pure_ (i := 7) (N := some 44) (v := ?_) (a' := ?_) #[true, true, true, true, true, true, true, true, false] rfl rfl (any_of HT_.out (by kernel_rfl)) (fun _ _ _ h => h) (Or.inl ⟨by rfl, ?_⟩) ?_ ?_
              rotate_left
              · intro w'
                go_simp
                with_reducible rfl
              rotate_left
              · simp only [Act.put, List.setIfInBounds_toArray, List.set_cons_zero, List.set_cons_succ, i64_w, i32_w]
                rfl
              refine pure_ (i := 8) (N := some 4) (v := ?_) (a' := ?_) #[true, true, true, true, true, true, true, true, true] rfl rfl (any_of HT_.out (by kernel_rfl)) (fun _ _ _ h => h) (Or.inl ⟨by rfl, ?_⟩) ?_ ?_
              rotate_left
              · intro w'
                go_simp
                with_reducible rfl
              rotate_left
              · simp only [Act.put, List.setIfInBounds_toArray, List.set_cons_zero, List.set_cons_succ, i64_w, i32_w]
                rfl
              refine done_ (done_of HT_.out (by kernel_rfl)) ?_
              try go_wp2
              go_ret
              exact ⟨by first | rfl | (simp [errW_none, errW_some] <;> rfl) | (simp [*, errW_none, errW_some] <;> rfl), by repeat (first | (with_reducible first | exact HB.out | apply below_alloc | apply pw_below_drewN | apply below_drew1 | refine below_set ?_ GE210.out | refine below_set ?_ GE219.out) | exact HB.out)⟩
            · rw [if_neg c27] at H
              exact absurd H (by simp)
          · replace c25 := Bool.eq_false_iff.mpr c25
            subst c25
            have H1 : (some (t222 == 0)) = some r := by rw [if_neg (show ¬ (false = true) by decide)] at H; exact H
            clear H
            have H := H1
            clear H1
            obtain rfl := Option.some.inj H
            go_wp2
            go_ret
            exact ⟨by first | rfl | (simp [errW_none, errW_some] <;> rfl) | (simp [*, errW_none, errW_some] <;> rfl), by repeat (first | (with_reducible first | exact HB.out | apply below_alloc | apply pw_below_drewN | apply below_drew1 | refine below_set ?_ GE210.out | refine below_set ?_ GE219.out) | exact HB.out)⟩
  · replace c4 := Bool.eq_false_iff.mpr c4
    subst c4
    have H1 : (none) = some r := by rw [if_neg (show ¬ (false = true) by decide)] at H; exact H
    clear H
    have H := H1
    clear H1
    exact absurd H (by simp)

/-- THE ONE PURE STATEMENT of zoneinfolaw05_DatetimeRoundTrip: yours. -/
def zoneinfolaw05_DatetimeRoundTrip.Pure : Prop := ∀ (a0 : Int) (a1_0 : Int) (a1_1 : Int) (a1_2 : Int) (a1_3 : Int) (a1_4 : Int) (a1_5 : Int) (a1_6 : Int), (Lit.int .i64 a0).wf = true → (Lit.int .i64 a1_0).wf = true → (Lit.int .i64 a1_1).wf = true → (Lit.int .i64 a1_2).wf = true → (Lit.int .i64 a1_3).wf = true → (Lit.int .i64 a1_4).wf = true → (Lit.int .i64 a1_5).wf = true → (Lit.int .i64 a1_6).wf = true → ∃ k, zoneinfolaw05_DatetimeRoundTrip.f k a0 a1_0 a1_1 a1_2 a1_3 a1_4 a1_5 a1_6 = some true
theorem zoneinfolaw05_DatetimeRoundTrip.walk (P : zoneinfolaw05_DatetimeRoundTrip.Pure) (a0 : Int) (a1_0 : Int) (a1_1 : Int) (a1_2 : Int) (a1_3 : Int) (a1_4 : Int) (a1_5 : Int) (a1_6 : Int) (w : World) (hgl : GL w) (w0 : (Lit.int .i64 a0).wf = true) (w1_0 : (Lit.int .i64 a1_0).wf = true) (w1_1 : (Lit.int .i64 a1_1).wf = true) (w1_2 : (Lit.int .i64 a1_2).wf = true) (w1_3 : (Lit.int .i64 a1_3).wf = true) (w1_4 : (Lit.int .i64 a1_4).wf = true) (w1_5 : (Lit.int .i64 a1_5).wf = true) (w1_6 : (Lit.int .i64 a1_6).wf = true) :
    Calls Tryd.prog 4 #[.int .i64 a0, .agg #[.int .i64 a1_0, .int .i64 a1_1, .int .i64 a1_2, .int .i64 a1_3, .int .i64 a1_4, .int .i64 a1_5, .int .i64 a1_6]] w fun e w' => e = .returned (.bool true) ∧ Below w.heap.size w w' := by
  obtain ⟨k, h⟩ := P a0 a1_0 a1_1 a1_2 a1_3 a1_4 a1_5 a1_6 w0 w1_0 w1_1 w1_2 w1_3 w1_4 w1_5 w1_6
  refine (zoneinfolaw05_DatetimeRoundTrip.calls k a0 a1_0 a1_1 a1_2 a1_3 a1_4 a1_5 a1_6 true w hgl h).mono ?_
  rintro e w' ⟨rfl, hd⟩
  exact ⟨rfl, hd⟩

end Go.Proofs.YtmfffkmnddeajaaDoor.G
