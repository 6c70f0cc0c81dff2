/- Written by a program of this session for this seat: contracts of the functions that its laws reach, or the row of a law over its plain part. -/
import Derived.Test.YtmfffkmnddeajaaDoorGx0
import Derived.Test.YtmfffkmnddeajaaDoorGx6
import Derived.Test.YtmfffkmnddeajaaDoorGx7
namespace Go.Proofs.YtmfffkmnddeajaaDoor.G
open Go.RowKit Go.Proofs.YtmfffkmnddeajaaDoorW.PrintWords Go.Proofs.YtmfffkmnddeajaaDoorW.PrintLast Go.Proofs.YtmfffkmnddeajaaDoorW.PrintMore
attribute [local go_sem] max2_int min2_int max_two min_two max_three min_three max_four min_four   -- for this text's walks alone
set_option linter.unusedVariables false
set_option linter.unusedSimpArgs false

/-! ### zoneinforef05_Unix: function 12 -/
def zoneinforef05_Unix.j0 : Nat → Int → Int → Bool → Option (Int × Bool)
  | 0, _, _, _ => none
  | k + 1, x4, x5, x65 => if x65 = true then (some (0, false)) else (if x4 < 0 then (some (wrap64 ((wrap64 ((wrap64 (x4 + 1)) * 86400)) + (wrap64 (x5 - 86400))), true)) else (some (wrap64 ((wrap64 (x4 * 86400)) + x5), true)))
def zoneinforef05_Unix.f (k : Nat) (a0_0 : Int) (a0_1 : Int) (a0_2 : Int) (a0_3 : Int) (a0_4 : Int) (a0_5 : Int) (a0_6 : Int) : Option (Int × Bool) := (zoneinforef05_Valid.f k a0_0 a0_1 a0_2 a0_3 a0_4 a0_5 a0_6).bind fun t169 => (if t169 = true then ((zoneinforef04_Days.f k a0_0 a0_1 a0_2).bind fun t170 => ((zoneinforef05_Split.f (-9223372036854775808)).bind fun bt171 => ((zoneinforef05_Split.f 9223372036854775807).bind fun bt173 => (if t170 < bt171.1 then (zoneinforef05_Unix.j0 k t170 (wrap64 ((wrap64 ((wrap64 (a0_3 * 3600)) + (wrap64 (a0_4 * 60)))) + a0_5)) true) else (if t170 = bt171.1 then (if (wrap64 ((wrap64 ((wrap64 (a0_3 * 3600)) + (wrap64 (a0_4 * 60)))) + a0_5)) < bt171.2 then (zoneinforef05_Unix.j0 k t170 (wrap64 ((wrap64 ((wrap64 (a0_3 * 3600)) + (wrap64 (a0_4 * 60)))) + a0_5)) true) else (if t170 > bt173.1 then (zoneinforef05_Unix.j0 k t170 (wrap64 ((wrap64 ((wrap64 (a0_3 * 3600)) + (wrap64 (a0_4 * 60)))) + a0_5)) true) else (if t170 = bt173.1 then (zoneinforef05_Unix.j0 k t170 (wrap64 ((wrap64 ((wrap64 (a0_3 * 3600)) + (wrap64 (a0_4 * 60)))) + a0_5)) (decide ((wrap64 ((wrap64 ((wrap64 (a0_3 * 3600)) + (wrap64 (a0_4 * 60)))) + a0_5)) > bt173.2))) else (zoneinforef05_Unix.j0 k t170 (wrap64 ((wrap64 ((wrap64 (a0_3 * 3600)) + (wrap64 (a0_4 * 60)))) + a0_5)) false)))) else (if t170 > bt173.1 then (zoneinforef05_Unix.j0 k t170 (wrap64 ((wrap64 ((wrap64 (a0_3 * 3600)) + (wrap64 (a0_4 * 60)))) + a0_5)) true) else (if t170 = bt173.1 then (zoneinforef05_Unix.j0 k t170 (wrap64 ((wrap64 ((wrap64 (a0_3 * 3600)) + (wrap64 (a0_4 * 60)))) + a0_5)) (decide ((wrap64 ((wrap64 ((wrap64 (a0_3 * 3600)) + (wrap64 (a0_4 * 60)))) + a0_5)) > bt173.2))) else (zoneinforef05_Unix.j0 k t170 (wrap64 ((wrap64 ((wrap64 (a0_3 * 3600)) + (wrap64 (a0_4 * 60)))) + a0_5)) false)))))))) else (some (0, false)))
theorem zoneinforef05_Unix.mono_l : ∀ k, (∀ y0 y1 y2, LeO (zoneinforef05_Unix.j0 k y0 y1 y2) (zoneinforef05_Unix.j0 (k + 1) y0 y1 y2))
  | 0 => fun _ _ _ r h => by simp [zoneinforef05_Unix.j0] at h
  | k + 1 => by
    have ih0 := zoneinforef05_Unix.mono_l k
    · intro y0 y1 y2
      unfold zoneinforef05_Unix.j0
      repeat' first
      | (with_reducible exact ih0 _ _ _)
      | (with_reducible exact zoneinforef04_Days.mono _ _ _ _)
      | (with_reducible exact zoneinforef05_Valid.mono _ _ _ _ _ _ _ _)
      | (with_reducible exact LeO.refl _)
      | (with_reducible exact LeO.none _)
      | (with_reducible refine LeO.ite ?_ ?_)
      | (with_reducible refine LeO.bind ?_ (fun _ => ?_))
      | exact ih0 _ _ _
      | exact zoneinforef04_Days.mono _ _ _ _
      | exact zoneinforef05_Valid.mono _ _ _ _ _ _ _ _
      | exact LeO.none _
      | refine LeO.ite ?_ ?_
      | refine LeO.bind ?_ (fun _ => ?_)
theorem zoneinforef05_Unix.mono : ∀ a0 a1 a2 a3 a4 a5 a6 k, LeO (zoneinforef05_Unix.f k a0 a1 a2 a3 a4 a5 a6) (zoneinforef05_Unix.f (k + 1) a0 a1 a2 a3 a4 a5 a6) := by
  intro a0 a1 a2 a3 a4 a5 a6 k
  have ih0 := zoneinforef05_Unix.mono_l k
  unfold zoneinforef05_Unix.f
  repeat' first
      | (with_reducible exact ih0 _ _ _)
      | (with_reducible exact zoneinforef04_Days.mono _ _ _ _)
      | (with_reducible exact zoneinforef05_Valid.mono _ _ _ _ _ _ _ _)
      | (with_reducible exact LeO.refl _)
      | (with_reducible exact LeO.none _)
      | (with_reducible refine LeO.ite ?_ ?_)
      | (with_reducible refine LeO.bind ?_ (fun _ => ?_))
      | exact ih0 _ _ _
      | exact zoneinforef04_Days.mono _ _ _ _
      | exact zoneinforef05_Valid.mono _ _ _ _ _ _ _ _
      | exact LeO.none _
      | refine LeO.ite ?_ ?_
      | refine LeO.bind ?_ (fun _ => ?_)
set_option maxHeartbeats 8000000 in
set_option maxRecDepth 100000 in
theorem zoneinforef05_Unix.calls (k : Nat) (a0_0 : Int) (a0_1 : Int) (a0_2 : Int) (a0_3 : Int) (a0_4 : Int) (a0_5 : Int) (a0_6 : Int) (r1 : Int) (r2 : Bool) (w : World) (h : zoneinforef05_Unix.f k a0_0 a0_1 a0_2 a0_3 a0_4 a0_5 a0_6 = some (r1, r2)) :
    Calls Tryd.prog 12 #[.agg #[.int .i64 a0_0, .int .i64 a0_1, .int .i64 a0_2, .int .i64 a0_3, .int .i64 a0_4, .int .i64 a0_5, .int .i64 a0_6]] w fun e w' => e = .returned (.tuple #[.int .i64 r1, .bool r2]) ∧ Below w.heap.size w w' := by
  have hu23 := Tryd.underlying23
  have HB := Aside0.mk (Below.refl w.heap.size w)
  have H : ((zoneinforef05_Valid.f k a0_0 a0_1 a0_2 a0_3 a0_4 a0_5 a0_6).bind fun t169 => (if t169 = true then ((zoneinforef04_Days.f k a0_0 a0_1 a0_2).bind fun t170 => ((zoneinforef05_Split.f (-9223372036854775808)).bind fun bt171 => ((zoneinforef05_Split.f 9223372036854775807).bind fun bt173 => (if t170 < bt171.1 then (zoneinforef05_Unix.j0 k t170 (wrap64 ((wrap64 ((wrap64 (a0_3 * 3600)) + (wrap64 (a0_4 * 60)))) + a0_5)) true) else (if t170 = bt171.1 then (if (wrap64 ((wrap64 ((wrap64 (a0_3 * 3600)) + (wrap64 (a0_4 * 60)))) + a0_5)) < bt171.2 then (zoneinforef05_Unix.j0 k t170 (wrap64 ((wrap64 ((wrap64 (a0_3 * 3600)) + (wrap64 (a0_4 * 60)))) + a0_5)) true) else (if t170 > bt173.1 then (zoneinforef05_Unix.j0 k t170 (wrap64 ((wrap64 ((wrap64 (a0_3 * 3600)) + (wrap64 (a0_4 * 60)))) + a0_5)) true) else (if t170 = bt173.1 then (zoneinforef05_Unix.j0 k t170 (wrap64 ((wrap64 ((wrap64 (a0_3 * 3600)) + (wrap64 (a0_4 * 60)))) + a0_5)) (decide ((wrap64 ((wrap64 ((wrap64 (a0_3 * 3600)) + (wrap64 (a0_4 * 60)))) + a0_5)) > bt173.2))) else (zoneinforef05_Unix.j0 k t170 (wrap64 ((wrap64 ((wrap64 (a0_3 * 3600)) + (wrap64 (a0_4 * 60)))) + a0_5)) false)))) else (if t170 > bt173.1 then (zoneinforef05_Unix.j0 k t170 (wrap64 ((wrap64 ((wrap64 (a0_3 * 3600)) + (wrap64 (a0_4 * 60)))) + a0_5)) true) else (if t170 = bt173.1 then (zoneinforef05_Unix.j0 k t170 (wrap64 ((wrap64 ((wrap64 (a0_3 * 3600)) + (wrap64 (a0_4 * 60)))) + a0_5)) (decide ((wrap64 ((wrap64 ((wrap64 (a0_3 * 3600)) + (wrap64 (a0_4 * 60)))) + a0_5)) > bt173.2))) else (zoneinforef05_Unix.j0 k t170 (wrap64 ((wrap64 ((wrap64 (a0_3 * 3600)) + (wrap64 (a0_4 * 60)))) + a0_5)) false)))))))) else (some (0, false)))) = some (r1, r2) := h
  clear h
  replace H := Option.bind_eq_some_iff.mp H
  obtain ⟨t169, A20, H⟩ := H
  replace H : (if t169 = true then ((zoneinforef04_Days.f k a0_0 a0_1 a0_2).bind fun t170 => ((zoneinforef05_Split.f (-9223372036854775808)).bind fun bt171 => ((zoneinforef05_Split.f 9223372036854775807).bind fun bt173 => (if t170 < bt171.1 then (zoneinforef05_Unix.j0 k t170 (wrap64 ((wrap64 ((wrap64 (a0_3 * 3600)) + (wrap64 (a0_4 * 60)))) + a0_5)) true) else (if t170 = bt171.1 then (if (wrap64 ((wrap64 ((wrap64 (a0_3 * 3600)) + (wrap64 (a0_4 * 60)))) + a0_5)) < bt171.2 then (zoneinforef05_Unix.j0 k t170 (wrap64 ((wrap64 ((wrap64 (a0_3 * 3600)) + (wrap64 (a0_4 * 60)))) + a0_5)) true) else (if t170 > bt173.1 then (zoneinforef05_Unix.j0 k t170 (wrap64 ((wrap64 ((wrap64 (a0_3 * 3600)) + (wrap64 (a0_4 * 60)))) + a0_5)) true) else (if t170 = bt173.1 then (zoneinforef05_Unix.j0 k t170 (wrap64 ((wrap64 ((wrap64 (a0_3 * 3600)) + (wrap64 (a0_4 * 60)))) + a0_5)) (decide ((wrap64 ((wrap64 ((wrap64 (a0_3 * 3600)) + (wrap64 (a0_4 * 60)))) + a0_5)) > bt173.2))) else (zoneinforef05_Unix.j0 k t170 (wrap64 ((wrap64 ((wrap64 (a0_3 * 3600)) + (wrap64 (a0_4 * 60)))) + a0_5)) false)))) else (if t170 > bt173.1 then (zoneinforef05_Unix.j0 k t170 (wrap64 ((wrap64 ((wrap64 (a0_3 * 3600)) + (wrap64 (a0_4 * 60)))) + a0_5)) true) else (if t170 = bt173.1 then (zoneinforef05_Unix.j0 k t170 (wrap64 ((wrap64 ((wrap64 (a0_3 * 3600)) + (wrap64 (a0_4 * 60)))) + a0_5)) (decide ((wrap64 ((wrap64 ((wrap64 (a0_3 * 3600)) + (wrap64 (a0_4 * 60)))) + a0_5)) > bt173.2))) else (zoneinforef05_Unix.j0 k t170 (wrap64 ((wrap64 ((wrap64 (a0_3 * 3600)) + (wrap64 (a0_4 * 60)))) + a0_5)) false)))))))) else (some (0, false))) = some (r1, r2) := H
  have A2 := Aside0.mk A20
  clear A20
  by_cases c3 : t169 = true
  · subst c3
    have H1 : ((zoneinforef04_Days.f k a0_0 a0_1 a0_2).bind fun t170 => ((zoneinforef05_Split.f (-9223372036854775808)).bind fun bt171 => ((zoneinforef05_Split.f 9223372036854775807).bind fun bt173 => (if t170 < bt171.1 then (zoneinforef05_Unix.j0 k t170 (wrap64 ((wrap64 ((wrap64 (a0_3 * 3600)) + (wrap64 (a0_4 * 60)))) + a0_5)) true) else (if t170 = bt171.1 then (if (wrap64 ((wrap64 ((wrap64 (a0_3 * 3600)) + (wrap64 (a0_4 * 60)))) + a0_5)) < bt171.2 then (zoneinforef05_Unix.j0 k t170 (wrap64 ((wrap64 ((wrap64 (a0_3 * 3600)) + (wrap64 (a0_4 * 60)))) + a0_5)) true) else (if t170 > bt173.1 then (zoneinforef05_Unix.j0 k t170 (wrap64 ((wrap64 ((wrap64 (a0_3 * 3600)) + (wrap64 (a0_4 * 60)))) + a0_5)) true) else (if t170 = bt173.1 then (zoneinforef05_Unix.j0 k t170 (wrap64 ((wrap64 ((wrap64 (a0_3 * 3600)) + (wrap64 (a0_4 * 60)))) + a0_5)) (decide ((wrap64 ((wrap64 ((wrap64 (a0_3 * 3600)) + (wrap64 (a0_4 * 60)))) + a0_5)) > bt173.2))) else (zoneinforef05_Unix.j0 k t170 (wrap64 ((wrap64 ((wrap64 (a0_3 * 3600)) + (wrap64 (a0_4 * 60)))) + a0_5)) false)))) else (if t170 > bt173.1 then (zoneinforef05_Unix.j0 k t170 (wrap64 ((wrap64 ((wrap64 (a0_3 * 3600)) + (wrap64 (a0_4 * 60)))) + a0_5)) true) else (if t170 = bt173.1 then (zoneinforef05_Unix.j0 k t170 (wrap64 ((wrap64 ((wrap64 (a0_3 * 3600)) + (wrap64 (a0_4 * 60)))) + a0_5)) (decide ((wrap64 ((wrap64 ((wrap64 (a0_3 * 3600)) + (wrap64 (a0_4 * 60)))) + a0_5)) > bt173.2))) else (zoneinforef05_Unix.j0 k t170 (wrap64 ((wrap64 ((wrap64 (a0_3 * 3600)) + (wrap64 (a0_4 * 60)))) + a0_5)) false)))))))) = some (r1, r2) := by rw [if_pos rfl] at H; exact H
    clear H
    have H := H1
    clear H1
    replace H := Option.bind_eq_some_iff.mp H
    obtain ⟨t170, A40, H⟩ := H
    replace H : ((zoneinforef05_Split.f (-9223372036854775808)).bind fun bt171 => ((zoneinforef05_Split.f 9223372036854775807).bind fun bt173 => (if t170 < bt171.1 then (zoneinforef05_Unix.j0 k t170 (wrap64 ((wrap64 ((wrap64 (a0_3 * 3600)) + (wrap64 (a0_4 * 60)))) + a0_5)) true) else (if t170 = bt171.1 then (if (wrap64 ((wrap64 ((wrap64 (a0_3 * 3600)) + (wrap64 (a0_4 * 60)))) + a0_5)) < bt171.2 then (zoneinforef05_Unix.j0 k t170 (wrap64 ((wrap64 ((wrap64 (a0_3 * 3600)) + (wrap64 (a0_4 * 60)))) + a0_5)) true) else (if t170 > bt173.1 then (zoneinforef05_Unix.j0 k t170 (wrap64 ((wrap64 ((wrap64 (a0_3 * 3600)) + (wrap64 (a0_4 * 60)))) + a0_5)) true) else (if t170 = bt173.1 then (zoneinforef05_Unix.j0 k t170 (wrap64 ((wrap64 ((wrap64 (a0_3 * 3600)) + (wrap64 (a0_4 * 60)))) + a0_5)) (decide ((wrap64 ((wrap64 ((wrap64 (a0_3 * 3600)) + (wrap64 (a0_4 * 60)))) + a0_5)) > bt173.2))) else (zoneinforef05_Unix.j0 k t170 (wrap64 ((wrap64 ((wrap64 (a0_3 * 3600)) + (wrap64 (a0_4 * 60)))) + a0_5)) false)))) else (if t170 > bt173.1 then (zoneinforef05_Unix.j0 k t170 (wrap64 ((wrap64 ((wrap64 (a0_3 * 3600)) + (wrap64 (a0_4 * 60)))) + a0_5)) true) else (if t170 = bt173.1 then (zoneinforef05_Unix.j0 k t170 (wrap64 ((wrap64 ((wrap64 (a0_3 * 3600)) + (wrap64 (a0_4 * 60)))) + a0_5)) (decide ((wrap64 ((wrap64 ((wrap64 (a0_3 * 3600)) + (wrap64 (a0_4 * 60)))) + a0_5)) > bt173.2))) else (zoneinforef05_Unix.j0 k t170 (wrap64 ((wrap64 ((wrap64 (a0_3 * 3600)) + (wrap64 (a0_4 * 60)))) + a0_5)) false))))))) = some (r1, r2) := H
    have A4 := Aside0.mk A40
    clear A40
    replace H := Option.bind_eq_some_iff.mp H
    obtain ⟨⟨t171, t172⟩, A50, H⟩ := H
    replace H : ((zoneinforef05_Split.f 9223372036854775807).bind fun bt173 => (if t170 < t171 then (zoneinforef05_Unix.j0 k t170 (wrap64 ((wrap64 ((wrap64 (a0_3 * 3600)) + (wrap64 (a0_4 * 60)))) + a0_5)) true) else (if t170 = t171 then (if (wrap64 ((wrap64 ((wrap64 (a0_3 * 3600)) + (wrap64 (a0_4 * 60)))) + a0_5)) < t172 then (zoneinforef05_Unix.j0 k t170 (wrap64 ((wrap64 ((wrap64 (a0_3 * 3600)) + (wrap64 (a0_4 * 60)))) + a0_5)) true) else (if t170 > bt173.1 then (zoneinforef05_Unix.j0 k t170 (wrap64 ((wrap64 ((wrap64 (a0_3 * 3600)) + (wrap64 (a0_4 * 60)))) + a0_5)) true) else (if t170 = bt173.1 then (zoneinforef05_Unix.j0 k t170 (wrap64 ((wrap64 ((wrap64 (a0_3 * 3600)) + (wrap64 (a0_4 * 60)))) + a0_5)) (decide ((wrap64 ((wrap64 ((wrap64 (a0_3 * 3600)) + (wrap64 (a0_4 * 60)))) + a0_5)) > bt173.2))) else (zoneinforef05_Unix.j0 k t170 (wrap64 ((wrap64 ((wrap64 (a0_3 * 3600)) + (wrap64 (a0_4 * 60)))) + a0_5)) false)))) else (if t170 > bt173.1 then (zoneinforef05_Unix.j0 k t170 (wrap64 ((wrap64 ((wrap64 (a0_3 * 3600)) + (wrap64 (a0_4 * 60)))) + a0_5)) true) else (if t170 = bt173.1 then (zoneinforef05_Unix.j0 k t170 (wrap64 ((wrap64 ((wrap64 (a0_3 * 3600)) + (wrap64 (a0_4 * 60)))) + a0_5)) (decide ((wrap64 ((wrap64 ((wrap64 (a0_3 * 3600)) + (wrap64 (a0_4 * 60)))) + a0_5)) > bt173.2))) else (zoneinforef05_Unix.j0 k t170 (wrap64 ((wrap64 ((wrap64 (a0_3 * 3600)) + (wrap64 (a0_4 * 60)))) + a0_5)) false)))))) = some (r1, r2) := H
    have A5 := Aside0.mk A50
    clear A50
    replace H := Option.bind_eq_some_iff.mp H
    obtain ⟨⟨t173, t174⟩, A60, H⟩ := H
    replace H : (if t170 < t171 then (zoneinforef05_Unix.j0 k t170 (wrap64 ((wrap64 ((wrap64 (a0_3 * 3600)) + (wrap64 (a0_4 * 60)))) + a0_5)) true) else (if t170 = t171 then (if (wrap64 ((wrap64 ((wrap64 (a0_3 * 3600)) + (wrap64 (a0_4 * 60)))) + a0_5)) < t172 then (zoneinforef05_Unix.j0 k t170 (wrap64 ((wrap64 ((wrap64 (a0_3 * 3600)) + (wrap64 (a0_4 * 60)))) + a0_5)) true) else (if t170 > t173 then (zoneinforef05_Unix.j0 k t170 (wrap64 ((wrap64 ((wrap64 (a0_3 * 3600)) + (wrap64 (a0_4 * 60)))) + a0_5)) true) else (if t170 = t173 then (zoneinforef05_Unix.j0 k t170 (wrap64 ((wrap64 ((wrap64 (a0_3 * 3600)) + (wrap64 (a0_4 * 60)))) + a0_5)) (decide ((wrap64 ((wrap64 ((wrap64 (a0_3 * 3600)) + (wrap64 (a0_4 * 60)))) + a0_5)) > t174))) else (zoneinforef05_Unix.j0 k t170 (wrap64 ((wrap64 ((wrap64 (a0_3 * 3600)) + (wrap64 (a0_4 * 60)))) + a0_5)) false)))) else (if t170 > t173 then (zoneinforef05_Unix.j0 k t170 (wrap64 ((wrap64 ((wrap64 (a0_3 * 3600)) + (wrap64 (a0_4 * 60)))) + a0_5)) true) else (if t170 = t173 then (zoneinforef05_Unix.j0 k t170 (wrap64 ((wrap64 ((wrap64 (a0_3 * 3600)) + (wrap64 (a0_4 * 60)))) + a0_5)) (decide ((wrap64 ((wrap64 ((wrap64 (a0_3 * 3600)) + (wrap64 (a0_4 * 60)))) + a0_5)) > t174))) else (zoneinforef05_Unix.j0 k t170 (wrap64 ((wrap64 ((wrap64 (a0_3 * 3600)) + (wrap64 (a0_4 * 60)))) + a0_5)) false))))) = some (r1, r2) := H
    have A6 := Aside0.mk A60
    clear A60
    have HC7 := Aside0.mk H
    clear H
    go_enter Tryd.func12, Tryd.ntmps12
    go_upto_region 7 with (first | ((with_reducible refine gate_dst (N := 1) rfl ?_); refine box_event ?hg (N := 1) ?hd (cs := #[.int .i64 a0_0, .int .i64 a0_1, .int .i64 a0_2, .int .i64 a0_3, .int .i64 a0_4, .int .i64 a0_5, .int .i64 a0_6]) (t := 23) ?hr ?_; (case hd => rfl); (case hg => rfl); (case hr => first | (go_simp; done) | (go_simp; rfl)); intro gb168 hg w8 hbox hb; have n0_ := Aside0.mk (below_step (by repeat (first | (with_reducible first | exact HB.out | apply below_alloc | apply pw_below_drewN | apply below_drew1) | exact HB.out)) hb); have n1_ := Aside0.mk (hbox); have n2_ := Aside0.mk ((by rw [hg]; exact (below_size (by repeat (first | (with_reducible first | exact HB.out | apply below_alloc | apply pw_below_drewN | apply below_drew1) | exact HB.out))) : w.heap.size ≤ gb168)); have n3_ := Aside0.mk ((by rw [hg]; exact (below_size (by repeat (first | (with_reducible first | exact HB.out | apply below_alloc | apply pw_below_drewN | apply below_drew1) | exact HB.out))) : w.heap.size ≤ gb168)); clear HB; have HB := n0_; have BK168 := n1_; have GW168 := n2_; have GE168 := n3_; clear n0_ n1_ n2_ n3_; clear hb hbox hg; have hcz9_0 : w8.cell? ⟨gb168, 0, none⟩ = some (.int .i64 a0_0) := (blk_cell BK168.out 0).trans rfl; have hcz9_1 : w8.cell? ⟨gb168, 1, none⟩ = some (.int .i64 a0_1) := (blk_cell BK168.out 1).trans rfl; have hcz9_2 : w8.cell? ⟨gb168, 2, none⟩ = some (.int .i64 a0_2) := (blk_cell BK168.out 2).trans rfl; have hcz9_3 : w8.cell? ⟨gb168, 3, none⟩ = some (.int .i64 a0_3) := (blk_cell BK168.out 3).trans rfl; have hcz9_4 : w8.cell? ⟨gb168, 4, none⟩ = some (.int .i64 a0_4) := (blk_cell BK168.out 4).trans rfl; have hcz9_5 : w8.cell? ⟨gb168, 5, none⟩ = some (.int .i64 a0_5) := (blk_cell BK168.out 5).trans rfl; have hcz9_6 : w8.cell? ⟨gb168, 6, none⟩ = some (.int .i64 a0_6) := (blk_cell BK168.out 6).trans rfl; have hfz9_0 := blk_frozen BK168.out 0; have hfz9_1 := blk_frozen BK168.out 1; have hfz9_2 := blk_frozen BK168.out 2; have hfz9_3 := blk_frozen BK168.out 3; have hfz9_4 := blk_frozen BK168.out 4; have hfz9_5 := blk_frozen BK168.out 5; have hfz9_6 := blk_frozen BK168.out 6) | ((with_reducible refine gate_callee (f := 16) rfl ?_); refine goesL_ (some 11) rfl rfl Tryd.func16 (by kernel_rfl) rfl #[.agg #[.int .i64 a0_0, .int .i64 a0_1, .int .i64 a0_2, .int .i64 a0_3, .int .i64 a0_4, .int .i64 a0_5, .int .i64 a0_6]] rfl (by (try simp only [List.map_toArray, List.map_cons, List.map_nil]); first | done | rfl | (simp only [List.length_drop, List.length_take]; rfl)) ?_; (with_reducible refine (zoneinforef05_Valid.calls k a0_0 a0_1 a0_2 a0_3 a0_4 a0_5 a0_6 true _ A2.out).mono ?_); rintro e w10 ⟨rfl, hb⟩; refine ⟨_, rfl, ?_⟩; have n0_ := Aside0.mk (blk_below (g := gb168) (o := .cells #[.int .i64 a0_0, .int .i64 a0_1, .int .i64 a0_2, .int .i64 a0_3, .int .i64 a0_4, .int .i64 a0_5, .int .i64 a0_6] 23 (0, 0)) (by (with_reducible repeat (first | refine blk_drewN ?_ _ | refine blk_drew ?_ | refine blk_alloc ?_ _)); exact BK168.out) hb); have n1_ := Aside0.mk (below_step (by repeat (first | (with_reducible first | exact HB.out | apply below_alloc | apply pw_below_drewN | apply below_drew1 | refine below_set ?_ GE168.out) | exact HB.out)) hb); clear BK168; clear HB; have BK168 := n0_; have HB := n1_; clear n0_ n1_; (try clear hb); (try clear hb2); (try clear hk); (try clear hi); have hcz11_0 : w10.cell? ⟨gb168, 0, none⟩ = some (.int .i64 a0_0) := (blk_cell BK168.out 0).trans rfl; have hcz11_1 : w10.cell? ⟨gb168, 1, none⟩ = some (.int .i64 a0_1) := (blk_cell BK168.out 1).trans rfl; have hcz11_2 : w10.cell? ⟨gb168, 2, none⟩ = some (.int .i64 a0_2) := (blk_cell BK168.out 2).trans rfl; have hcz11_3 : w10.cell? ⟨gb168, 3, none⟩ = some (.int .i64 a0_3) := (blk_cell BK168.out 3).trans rfl; have hcz11_4 : w10.cell? ⟨gb168, 4, none⟩ = some (.int .i64 a0_4) := (blk_cell BK168.out 4).trans rfl; have hcz11_5 : w10.cell? ⟨gb168, 5, none⟩ = some (.int .i64 a0_5) := (blk_cell BK168.out 5).trans rfl; have hcz11_6 : w10.cell? ⟨gb168, 6, none⟩ = some (.int .i64 a0_6) := (blk_cell BK168.out 6).trans rfl; have hfz11_0 := blk_frozen BK168.out 0; have hfz11_1 := blk_frozen BK168.out 1; have hfz11_2 := blk_frozen BK168.out 2; have hfz11_3 := blk_frozen BK168.out 3; have hfz11_4 := blk_frozen BK168.out 4; have hfz11_5 := blk_frozen BK168.out 5; have hfz11_6 := blk_frozen BK168.out 6) | ((with_reducible refine gate_callee (f := 17) rfl ?_); refine goesL_ (some 19) rfl rfl Tryd.func17 (by kernel_rfl) rfl #[.int .i64 a0_0, .int .i64 a0_1, .int .i64 a0_2] rfl (by (try simp only [List.map_toArray, List.map_cons, List.map_nil]); first | done | rfl | (simp only [List.length_drop, List.length_take]; rfl)) ?_; (with_reducible refine (zoneinforef04_Days.calls k a0_0 a0_1 a0_2 t170 _ A4.out).mono ?_); rintro e w' ⟨rfl, ⟨nd, rfl⟩⟩; refine ⟨_, rfl, ?_⟩) | ((with_reducible refine gate_callee (f := 10) rfl ?_); refine goesL_ (some 31) rfl rfl Tryd.func10 (by kernel_rfl) rfl #[.int .i64 (-9223372036854775808)] rfl (by (try simp only [List.map_toArray, List.map_cons, List.map_nil]); first | done | rfl | (simp only [List.length_drop, List.length_take]; rfl)) ?_; (with_reducible refine (zoneinforef05_Split.calls (-9223372036854775808) t171 t172 _ A5.out).mono ?_); rintro e w' ⟨rfl, ⟨nd, rfl⟩⟩; refine ⟨_, rfl, ?_⟩) | ((with_reducible refine gate_callee (f := 10) rfl ?_); refine goesL_ (some 35) rfl rfl Tryd.func10 (by kernel_rfl) rfl #[.int .i64 9223372036854775807] rfl (by (try simp only [List.map_toArray, List.map_cons, List.map_nil]); first | done | rfl | (simp only [List.length_drop, List.length_take]; rfl)) ?_; (with_reducible refine (zoneinforef05_Split.calls 9223372036854775807 t173 t174 _ A6.out).mono ?_); rintro e w' ⟨rfl, ⟨nd, rfl⟩⟩; refine ⟨_, rfl, ?_⟩))
    (try simp only [Act.put, List.setIfInBounds_toArray, List.set_cons_zero, List.set_cons_succ])
    go_cut [65] (fun v65 wc => ∃ (kq : Nat) (x65_6 : Bool), v65 = .bool x65_6 ∧ Aside0 (zoneinforef05_Unix.j0 kq t170 (wrap64 ((wrap64 ((wrap64 (a0_3 * 3600)) + (wrap64 (a0_4 * 60)))) + a0_5)) x65_6 = some (r1, r2)) ∧ Aside0 (kq ≤ k) ∧ Aside0 (wc.heap[gb168]? = some (.cells #[.int .i64 a0_0, .int .i64 a0_1, .int .i64 a0_2, .int .i64 a0_3, .int .i64 a0_4, .int .i64 a0_5, .int .i64 a0_6] 23 (0, 0))) ∧ Aside0 (Below w.heap.size w wc))
    case first =>
      have H := HC7.out
      clear HC7
      by_cases c12 : t170 < t171
      · rw [if_pos c12] at H
        have c12b0 : decide (t170 < t171) = true := decide_eq_true c12
        clear c12
        (first | rw [c12b0] | (simp only [i64_w, i32_w]; rw [c12b0]) | skip)
        have H' := Aside0.mk H
        clear H
        go_wp2
        go_meet
        case rel => exact ⟨_, (true), (by first | rfl | (simp; done) | (simp [*]; done)), H', ⟨by first | omega | exact Nat.le_refl _⟩, ⟨by (with_reducible repeat (first | refine blk_drewN ?_ _ | refine blk_drew ?_ | refine blk_alloc ?_ _)); exact BK168.out⟩, ⟨by repeat (first | (with_reducible first | exact HB.out | apply below_alloc | apply pw_below_drewN | apply below_drew1 | refine below_set ?_ GE168.out) | exact HB.out)⟩⟩
      · rw [if_neg c12] at H
        have c12b0 : decide (t170 < t171) = false := decide_eq_false c12
        clear c12
        (first | rw [c12b0] | (simp only [i64_w, i32_w]; rw [c12b0]) | skip)
        by_cases c13 : t170 = t171
        · rw [if_pos c13] at H
          have c13b0 : (t170 == t171) = true := beq_iff_eq.mpr c13
          have c13b1 : (t170 != t171) = false := bne_eq_false_iff_eq.mpr c13
          clear c13
          by_cases c14 : (wrap64 ((wrap64 ((wrap64 (a0_3 * 3600)) + (wrap64 (a0_4 * 60)))) + a0_5)) < t172
          · rw [if_pos c14] at H
            have c14b0 : decide ((wrap64 ((wrap64 ((wrap64 (a0_3 * 3600)) + (wrap64 (a0_4 * 60)))) + a0_5)) < t172) = true := decide_eq_true c14
            clear c14
            have H' := Aside0.mk H
            clear H
            go_wp2
            go_meet
            case rel => exact ⟨_, (true), (by first | rfl | (simp; done) | (simp [*]; done)), H', ⟨by first | omega | exact Nat.le_refl _⟩, ⟨by (with_reducible repeat (first | refine blk_drewN ?_ _ | refine blk_drew ?_ | refine blk_alloc ?_ _)); exact BK168.out⟩, ⟨by repeat (first | (with_reducible first | exact HB.out | apply below_alloc | apply pw_below_drewN | apply below_drew1 | refine below_set ?_ GE168.out) | exact HB.out)⟩⟩
          · rw [if_neg c14] at H
            have c14b0 : decide ((wrap64 ((wrap64 ((wrap64 (a0_3 * 3600)) + (wrap64 (a0_4 * 60)))) + a0_5)) < t172) = false := decide_eq_false c14
            clear c14
            by_cases c15 : t170 > t173
            · rw [if_pos c15] at H
              have c15b0 : decide (t173 < t170) = true := decide_eq_true c15
              clear c15
              have H' := Aside0.mk H
              clear H
              go_wp2
              go_meet
              case rel => exact ⟨_, (true), (by first | rfl | (simp; done) | (simp [*]; done)), H', ⟨by first | omega | exact Nat.le_refl _⟩, ⟨by (with_reducible repeat (first | refine blk_drewN ?_ _ | refine blk_drew ?_ | refine blk_alloc ?_ _)); exact BK168.out⟩, ⟨by repeat (first | (with_reducible first | exact HB.out | apply below_alloc | apply pw_below_drewN | apply below_drew1 | refine below_set ?_ GE168.out) | exact HB.out)⟩⟩
            · rw [if_neg c15] at H
              have c15b0 : decide (t173 < t170) = false := decide_eq_false c15
              clear c15
              by_cases c16 : t170 = t173
              · rw [if_pos c16] at H
                have c16b0 : (t170 == t173) = true := beq_iff_eq.mpr c16
                have c16b1 : (t170 != t173) = false := bne_eq_false_iff_eq.mpr c16
                clear c16
                have H' := Aside0.mk H
                clear H
                go_wp2
                go_meet
                case rel => exact ⟨_, (decide ((wrap64 ((wrap64 ((wrap64 (a0_3 * 3600)) + (wrap64 (a0_4 * 60)))) + a0_5)) > t174)), (by first | rfl | (simp; done) | (simp [*]; done)), H', ⟨by first | omega | exact Nat.le_refl _⟩, ⟨by (with_reducible repeat (first | refine blk_drewN ?_ _ | refine blk_drew ?_ | refine blk_alloc ?_ _)); exact BK168.out⟩, ⟨by repeat (first | (with_reducible first | exact HB.out | apply below_alloc | apply pw_below_drewN | apply below_drew1 | refine below_set ?_ GE168.out) | exact HB.out)⟩⟩
              · rw [if_neg c16] at H
                have c16b0 : (t170 == t173) = false := beq_eq_false_iff_ne.mpr c16
                have c16b1 : (t170 != t173) = true := bne_iff_ne.mpr c16
                have H' := Aside0.mk H
                clear H
                go_wp2
                go_meet
                case rel => exact ⟨_, (false), (by first | rfl | (simp; done) | (simp [*]; done)), H', ⟨by first | omega | exact Nat.le_refl _⟩, ⟨by (with_reducible repeat (first | refine blk_drewN ?_ _ | refine blk_drew ?_ | refine blk_alloc ?_ _)); exact BK168.out⟩, ⟨by repeat (first | (with_reducible first | exact HB.out | apply below_alloc | apply pw_below_drewN | apply below_drew1 | refine below_set ?_ GE168.out) | exact HB.out)⟩⟩
        · rw [if_neg c13] at H
          have c13b0 : (t170 == t171) = false := beq_eq_false_iff_ne.mpr c13
          have c13b1 : (t170 != t171) = true := bne_iff_ne.mpr c13
          by_cases c17 : t170 > t173
          · rw [if_pos c17] at H
            have c17b0 : decide (t173 < t170) = true := decide_eq_true c17
            clear c17
            have H' := Aside0.mk H
            clear H
            go_wp2
            go_meet
            case rel => exact ⟨_, (true), (by first | rfl | (simp; done) | (simp [*]; done)), H', ⟨by first | omega | exact Nat.le_refl _⟩, ⟨by (with_reducible repeat (first | refine blk_drewN ?_ _ | refine blk_drew ?_ | refine blk_alloc ?_ _)); exact BK168.out⟩, ⟨by repeat (first | (with_reducible first | exact HB.out | apply below_alloc | apply pw_below_drewN | apply below_drew1 | refine below_set ?_ GE168.out) | exact HB.out)⟩⟩
          · rw [if_neg c17] at H
            have c17b0 : decide (t173 < t170) = false := decide_eq_false c17
            clear c17
            by_cases c18 : t170 = t173
            · rw [if_pos c18] at H
              have c18b0 : (t170 == t173) = true := beq_iff_eq.mpr c18
              have c18b1 : (t170 != t173) = false := bne_eq_false_iff_eq.mpr c18
              clear c18
              have H' := Aside0.mk H
              clear H
              go_wp2
              go_meet
              case rel => exact ⟨_, (decide ((wrap64 ((wrap64 ((wrap64 (a0_3 * 3600)) + (wrap64 (a0_4 * 60)))) + a0_5)) > t174)), (by first | rfl | (simp; done) | (simp [*]; done)), H', ⟨by first | omega | exact Nat.le_refl _⟩, ⟨by (with_reducible repeat (first | refine blk_drewN ?_ _ | refine blk_drew ?_ | refine blk_alloc ?_ _)); exact BK168.out⟩, ⟨by repeat (first | (with_reducible first | exact HB.out | apply below_alloc | apply pw_below_drewN | apply below_drew1 | refine below_set ?_ GE168.out) | exact HB.out)⟩⟩
            · rw [if_neg c18] at H
              have c18b0 : (t170 == t173) = false := beq_eq_false_iff_ne.mpr c18
              have c18b1 : (t170 != t173) = true := bne_iff_ne.mpr c18
              have H' := Aside0.mk H
              clear H
              go_wp2
              go_meet
              case rel => exact ⟨_, (false), (by first | rfl | (simp; done) | (simp [*]; done)), H', ⟨by first | omega | exact Nat.le_refl _⟩, ⟨by (with_reducible repeat (first | refine blk_drewN ?_ _ | refine blk_drew ?_ | refine blk_alloc ?_ _)); exact BK168.out⟩, ⟨by repeat (first | (with_reducible first | exact HB.out | apply below_alloc | apply pw_below_drewN | apply below_drew1 | refine below_set ?_ GE168.out) | exact HB.out)⟩⟩
    case rest =>
      clear HC7
      try clear c1
      try clear p2
      try clear c3
      try clear p6
      try clear c10
      try clear c12
      try clear c12b0
      try clear c13
      try clear c13b0
      try clear c13b1
      try clear c14
      try clear c14b0
      try clear c15
      try clear c15b0
      try clear c16
      try clear c16b0
      try clear c16b1
      try clear c17
      try clear c17b0
      try clear c18
      try clear c18b0
      try clear c18b1
      try clear hcz11_0
      try clear hcz11_1
      try clear hcz11_2
      try clear hcz11_3
      try clear hcz11_4
      try clear hcz11_5
      try clear hcz11_6
      try clear hcz9_0
      try clear hcz9_1
      try clear hcz9_2
      try clear hcz9_3
      try clear hcz9_4
      try clear hcz9_5
      try clear hcz9_6
      try clear hfz11_0
      try clear hfz11_1
      try clear hfz11_2
      try clear hfz11_3
      try clear hfz11_4
      try clear hfz11_5
      try clear hfz11_6
      try clear hfz9_0
      try clear hfz9_1
      try clear hfz9_2
      try clear hfz9_3
      try clear hfz9_4
      try clear hfz9_5
      try clear hfz9_6
      obtain ⟨kq, x65_6, rfl, HA, HJ6, BK168, HB⟩ := hcut
      cases kq with
      | zero => exact absurd HA.out (by simp [zoneinforef05_Unix.j0])
      | succ kj6 =>
        have H := HA.out
        clear HA
        simp only [zoneinforef05_Unix.j0] at H
        by_cases c19 : x65_6 = true
        · subst c19
          have H1 : (some (0, false)) = some (r1, r2) := by rw [if_pos rfl] at H; exact H
          clear H
          have H := H1
          clear H1
          simp only [Option.some.injEq, Prod.mk.injEq] at H
          obtain ⟨rfl, rfl⟩ := H
          go_wp2
          go_ret2
          exact ⟨by first | rfl | (simp [errW_none, errW_some] <;> rfl) | (simp [*, errW_none, errW_some] <;> rfl), by repeat (first | (with_reducible first | exact HB.out | apply below_alloc | apply pw_below_drewN | apply below_drew1 | refine below_set ?_ GE168.out) | exact HB.out)⟩
        · replace c19 := Bool.eq_false_iff.mpr c19
          subst c19
          have H1 : (if t170 < 0 then (some (wrap64 ((wrap64 ((wrap64 (t170 + 1)) * 86400)) + (wrap64 ((wrap64 ((wrap64 ((wrap64 (a0_3 * 3600)) + (wrap64 (a0_4 * 60)))) + a0_5)) - 86400))), true)) else (some (wrap64 ((wrap64 (t170 * 86400)) + (wrap64 ((wrap64 ((wrap64 (a0_3 * 3600)) + (wrap64 (a0_4 * 60)))) + a0_5))), true))) = some (r1, r2) := by rw [if_neg (show ¬ (false = true) by decide)] at H; exact H
          clear H
          have H := H1
          clear H1
          by_cases c20 : t170 < 0
          · rw [if_pos c20] at H
            have c20b0 : decide (t170 < 0) = true := decide_eq_true c20
            clear c20
            simp only [Option.some.injEq, Prod.mk.injEq] at H
            obtain ⟨rfl, rfl⟩ := H
            go_wp2
            go_ret2
            exact ⟨by first | rfl | (simp [errW_none, errW_some] <;> rfl) | (simp [*, errW_none, errW_some] <;> rfl), by repeat (first | (with_reducible first | exact HB.out | apply below_alloc | apply pw_below_drewN | apply below_drew1 | refine below_set ?_ GE168.out) | exact HB.out)⟩
          · rw [if_neg c20] at H
            have c20b0 : decide (t170 < 0) = false := decide_eq_false c20
            clear c20
            simp only [Option.some.injEq, Prod.mk.injEq] at H
            obtain ⟨rfl, rfl⟩ := H
            go_wp2
            go_ret2
            exact ⟨by first | rfl | (simp [errW_none, errW_some] <;> rfl) | (simp [*, errW_none, errW_some] <;> rfl), by repeat (first | (with_reducible first | exact HB.out | apply below_alloc | apply pw_below_drewN | apply below_drew1 | refine below_set ?_ GE168.out) | exact HB.out)⟩
  · replace c3 := Bool.eq_false_iff.mpr c3
    subst c3
    have H1 : (some (0, false)) = some (r1, r2) := by rw [if_neg (show ¬ (false = true) by decide)] at H; exact H
    clear H
    have H := H1
    clear H1
    simp only [Option.some.injEq, Prod.mk.injEq] at H
    obtain ⟨rfl, rfl⟩ := H
    go_enter Tryd.func12, Tryd.ntmps12
    go_wp2_with (first | ((with_reducible refine gate_dst (N := 1) rfl ?_); refine box_event ?hg (N := 1) ?hd (cs := #[.int .i64 a0_0, .int .i64 a0_1, .int .i64 a0_2, .int .i64 a0_3, .int .i64 a0_4, .int .i64 a0_5, .int .i64 a0_6]) (t := 23) ?hr ?_; (case hd => rfl); (case hg => rfl); (case hr => first | (go_simp; done) | (go_simp; rfl)); intro gb168 hg w21 hbox hb; have n0_ := Aside0.mk (below_step (by repeat (first | (with_reducible first | exact HB.out | apply below_alloc | apply pw_below_drewN | apply below_drew1) | exact HB.out)) hb); have n1_ := Aside0.mk (hbox); have n2_ := Aside0.mk ((by rw [hg]; exact (below_size (by repeat (first | (with_reducible first | exact HB.out | apply below_alloc | apply pw_below_drewN | apply below_drew1) | exact HB.out))) : w.heap.size ≤ gb168)); have n3_ := Aside0.mk ((by rw [hg]; exact (below_size (by repeat (first | (with_reducible first | exact HB.out | apply below_alloc | apply pw_below_drewN | apply below_drew1) | exact HB.out))) : w.heap.size ≤ gb168)); clear HB; have HB := n0_; have BK168 := n1_; have GW168 := n2_; have GE168 := n3_; clear n0_ n1_ n2_ n3_; clear hb hbox hg; have hcz22_0 : w21.cell? ⟨gb168, 0, none⟩ = some (.int .i64 a0_0) := (blk_cell BK168.out 0).trans rfl; have hcz22_1 : w21.cell? ⟨gb168, 1, none⟩ = some (.int .i64 a0_1) := (blk_cell BK168.out 1).trans rfl; have hcz22_2 : w21.cell? ⟨gb168, 2, none⟩ = some (.int .i64 a0_2) := (blk_cell BK168.out 2).trans rfl; have hcz22_3 : w21.cell? ⟨gb168, 3, none⟩ = some (.int .i64 a0_3) := (blk_cell BK168.out 3).trans rfl; have hcz22_4 : w21.cell? ⟨gb168, 4, none⟩ = some (.int .i64 a0_4) := (blk_cell BK168.out 4).trans rfl; have hcz22_5 : w21.cell? ⟨gb168, 5, none⟩ = some (.int .i64 a0_5) := (blk_cell BK168.out 5).trans rfl; have hcz22_6 : w21.cell? ⟨gb168, 6, none⟩ = some (.int .i64 a0_6) := (blk_cell BK168.out 6).trans rfl; have hfz22_0 := blk_frozen BK168.out 0; have hfz22_1 := blk_frozen BK168.out 1; have hfz22_2 := blk_frozen BK168.out 2; have hfz22_3 := blk_frozen BK168.out 3; have hfz22_4 := blk_frozen BK168.out 4; have hfz22_5 := blk_frozen BK168.out 5; have hfz22_6 := blk_frozen BK168.out 6) | ((with_reducible refine gate_callee (f := 16) rfl ?_); refine goesL_ (some 11) rfl rfl Tryd.func16 (by kernel_rfl) rfl #[.agg #[.int .i64 a0_0, .int .i64 a0_1, .int .i64 a0_2, .int .i64 a0_3, .int .i64 a0_4, .int .i64 a0_5, .int .i64 a0_6]] rfl (by (try simp only [List.map_toArray, List.map_cons, List.map_nil]); first | done | rfl | (simp only [List.length_drop, List.length_take]; rfl)) ?_; (with_reducible refine (zoneinforef05_Valid.calls k a0_0 a0_1 a0_2 a0_3 a0_4 a0_5 a0_6 false _ A2.out).mono ?_); rintro e w23 ⟨rfl, hb⟩; refine ⟨_, rfl, ?_⟩; have n0_ := Aside0.mk (blk_below (g := gb168) (o := .cells #[.int .i64 a0_0, .int .i64 a0_1, .int .i64 a0_2, .int .i64 a0_3, .int .i64 a0_4, .int .i64 a0_5, .int .i64 a0_6] 23 (0, 0)) (by (with_reducible repeat (first | refine blk_drewN ?_ _ | refine blk_drew ?_ | refine blk_alloc ?_ _)); exact BK168.out) hb); have n1_ := Aside0.mk (below_step (by repeat (first | (with_reducible first | exact HB.out | apply below_alloc | apply pw_below_drewN | apply below_drew1 | refine below_set ?_ GE168.out) | exact HB.out)) hb); clear BK168; clear HB; have BK168 := n0_; have HB := n1_; clear n0_ n1_; (try clear hb); (try clear hb2); (try clear hk); (try clear hi)))
    go_ret2
    exact ⟨by first | rfl | (simp [errW_none, errW_some] <;> rfl) | (simp [*, errW_none, errW_some] <;> rfl), by repeat (first | (with_reducible first | exact HB.out | apply below_alloc | apply pw_below_drewN | apply below_drew1 | refine below_set ?_ GE168.out) | exact HB.out)⟩

/-! ### zoneinforef04_Date: function 23 -/
mutual
def zoneinforef04_Date.j0 : Nat → Int → Int → Option (Int × Int × Int)
  | 0, _, _ => none
  | k + 1, x5, x6 => zoneinforef04_Date.l0 k x5 x6 0
def zoneinforef04_Date.j2 : Nat → Int → Int → Int → Option (Int × Int × Int)
  | 0, _, _, _ => none
  | k + 1, x5, x6, x7 => zoneinforef04_Date.l1 k x5 x6 x7 1
def zoneinforef04_Date.l1 : Nat → Int → Int → Int → Int → Option (Int × Int × Int)
  | 0, _, _, _, _ => none
  | k + 1, x5, x6, x7, x9 => (zoneinforef04_MonthDays.f k x7 x9).bind fun t176 => (if x6 ≥ t176 then ((zoneinforef04_MonthDays.f k x7 x9).bind fun t177 => (zoneinforef04_Date.l1 k x5 (wrap64 (x6 - t177)) x7 (wrap64 (x9 + 1)))) else (some (wrap64 ((wrap64 (2000 + (wrap64 (400 * x5)))) + x7), x9, wrap64 (x6 + 1))))
def zoneinforef04_Date.l0 : Nat → Int → Int → Int → Option (Int × Int × Int)
  | 0, _, _, _ => none
  | k + 1, x5, x6, x7 => (zoneinforef04_IsLeap.f x7).bind fun t175 => (if t175 = true then (if x6 < 366 then (zoneinforef04_Date.j2 k x5 x6 x7) else (zoneinforef04_Date.l0 k x5 (wrap64 (x6 - 366)) (wrap64 (x7 + 1)))) else (if x6 < 365 then (zoneinforef04_Date.j2 k x5 x6 x7) else (zoneinforef04_Date.l0 k x5 (wrap64 (x6 - 365)) (wrap64 (x7 + 1)))))
end
def zoneinforef04_Date.f (k : Nat) (a0 : Int) : Option (Int × Int × Int) := if (Int.tmod (wrap64 (a0 - 10957)) 146097) < 0 then (zoneinforef04_Date.j0 k (wrap64 ((wrap64 (Int.tdiv (wrap64 (a0 - 10957)) 146097)) - 1)) (wrap64 ((Int.tmod (wrap64 (a0 - 10957)) 146097) + 146097))) else (zoneinforef04_Date.j0 k (wrap64 (Int.tdiv (wrap64 (a0 - 10957)) 146097)) (Int.tmod (wrap64 (a0 - 10957)) 146097))
theorem zoneinforef04_Date.mono_l : ∀ k, (∀ y0 y1, LeO (zoneinforef04_Date.j0 k y0 y1) (zoneinforef04_Date.j0 (k + 1) y0 y1)) ∧ (∀ y0 y1 y2, LeO (zoneinforef04_Date.j2 k y0 y1 y2) (zoneinforef04_Date.j2 (k + 1) y0 y1 y2)) ∧ (∀ y0 y1 y2 y3, LeO (zoneinforef04_Date.l1 k y0 y1 y2 y3) (zoneinforef04_Date.l1 (k + 1) y0 y1 y2 y3)) ∧ (∀ y0 y1 y2, LeO (zoneinforef04_Date.l0 k y0 y1 y2) (zoneinforef04_Date.l0 (k + 1) y0 y1 y2))
  | 0 => ⟨fun _ _ r h => by simp [zoneinforef04_Date.j0] at h, fun _ _ _ r h => by simp [zoneinforef04_Date.j2] at h, fun _ _ _ _ r h => by simp [zoneinforef04_Date.l1] at h, fun _ _ _ r h => by simp [zoneinforef04_Date.l0] at h⟩
  | k + 1 => by
    obtain ⟨ih0, ih1, ih2, ih3⟩ := zoneinforef04_Date.mono_l k
    refine ⟨?_, ?_, ?_, ?_⟩
    · intro y0 y1
      unfold zoneinforef04_Date.j0
      repeat' first
      | (with_reducible exact ih0 _ _)
      | (with_reducible exact ih1 _ _ _)
      | (with_reducible exact ih2 _ _ _ _)
      | (with_reducible exact ih3 _ _ _)
      | (with_reducible exact zoneinforef04_MonthDays.mono _ _ _)
      | (with_reducible exact LeO.refl _)
      | (with_reducible exact LeO.none _)
      | (with_reducible refine LeO.ite ?_ ?_)
      | (with_reducible refine LeO.bind ?_ (fun _ => ?_))
      | exact ih0 _ _
      | exact ih1 _ _ _
      | exact ih2 _ _ _ _
      | exact ih3 _ _ _
      | exact zoneinforef04_MonthDays.mono _ _ _
      | exact LeO.none _
      | refine LeO.ite ?_ ?_
      | refine LeO.bind ?_ (fun _ => ?_)
    · intro y0 y1 y2
      unfold zoneinforef04_Date.j2
      repeat' first
      | (with_reducible exact ih0 _ _)
      | (with_reducible exact ih1 _ _ _)
      | (with_reducible exact ih2 _ _ _ _)
      | (with_reducible exact ih3 _ _ _)
      | (with_reducible exact zoneinforef04_MonthDays.mono _ _ _)
      | (with_reducible exact LeO.refl _)
      | (with_reducible exact LeO.none _)
      | (with_reducible refine LeO.ite ?_ ?_)
      | (with_reducible refine LeO.bind ?_ (fun _ => ?_))
      | exact ih0 _ _
      | exact ih1 _ _ _
      | exact ih2 _ _ _ _
      | exact ih3 _ _ _
      | exact zoneinforef04_MonthDays.mono _ _ _
      | exact LeO.none _
      | refine LeO.ite ?_ ?_
      | refine LeO.bind ?_ (fun _ => ?_)
    · intro y0 y1 y2 y3
      unfold zoneinforef04_Date.l1
      repeat' first
      | (with_reducible exact ih0 _ _)
      | (with_reducible exact ih1 _ _ _)
      | (with_reducible exact ih2 _ _ _ _)
      | (with_reducible exact ih3 _ _ _)
      | (with_reducible exact zoneinforef04_MonthDays.mono _ _ _)
      | (with_reducible exact LeO.refl _)
      | (with_reducible exact LeO.none _)
      | (with_reducible refine LeO.ite ?_ ?_)
      | (with_reducible refine LeO.bind ?_ (fun _ => ?_))
      | exact ih0 _ _
      | exact ih1 _ _ _
      | exact ih2 _ _ _ _
      | exact ih3 _ _ _
      | exact zoneinforef04_MonthDays.mono _ _ _
      | exact LeO.none _
      | refine LeO.ite ?_ ?_
      | refine LeO.bind ?_ (fun _ => ?_)
    · intro y0 y1 y2
      unfold zoneinforef04_Date.l0
      repeat' first
      | (with_reducible exact ih0 _ _)
      | (with_reducible exact ih1 _ _ _)
      | (with_reducible exact ih2 _ _ _ _)
      | (with_reducible exact ih3 _ _ _)
      | (with_reducible exact zoneinforef04_MonthDays.mono _ _ _)
      | (with_reducible exact LeO.refl _)
      | (with_reducible exact LeO.none _)
      | (with_reducible refine LeO.ite ?_ ?_)
      | (with_reducible refine LeO.bind ?_ (fun _ => ?_))
      | exact ih0 _ _
      | exact ih1 _ _ _
      | exact ih2 _ _ _ _
      | exact ih3 _ _ _
      | exact zoneinforef04_MonthDays.mono _ _ _
      | exact LeO.none _
      | refine LeO.ite ?_ ?_
      | refine LeO.bind ?_ (fun _ => ?_)
theorem zoneinforef04_Date.mono : ∀ a0 k, LeO (zoneinforef04_Date.f k a0) (zoneinforef04_Date.f (k + 1) a0) := by
  intro a0 k
  obtain ⟨ih0, ih1, ih2, ih3⟩ := zoneinforef04_Date.mono_l k
  unfold zoneinforef04_Date.f
  repeat' first
      | (with_reducible exact ih0 _ _)
      | (with_reducible exact ih1 _ _ _)
      | (with_reducible exact ih2 _ _ _ _)
      | (with_reducible exact ih3 _ _ _)
      | (with_reducible exact zoneinforef04_MonthDays.mono _ _ _)
      | (with_reducible exact LeO.refl _)
      | (with_reducible exact LeO.none _)
      | (with_reducible refine LeO.ite ?_ ?_)
      | (with_reducible refine LeO.bind ?_ (fun _ => ?_))
      | exact ih0 _ _
      | exact ih1 _ _ _
      | exact ih2 _ _ _ _
      | exact ih3 _ _ _
      | exact zoneinforef04_MonthDays.mono _ _ _
      | exact LeO.none _
      | refine LeO.ite ?_ ?_
      | refine LeO.bind ?_ (fun _ => ?_)
set_option maxHeartbeats 8000000 in
set_option maxRecDepth 100000 in
theorem zoneinforef04_Date.calls (k : Nat) (a0 : Int) (r1 : Int) (r2 : Int) (r3 : Int) (w : World) (h : zoneinforef04_Date.f k a0 = some (r1, r2, r3)) :
    Calls Tryd.prog 23 #[.int .i64 a0] w fun e w' => e = .returned (.tuple #[.int .i64 r1, .int .i64 r2, .int .i64 r3]) ∧ Drawn0 w w' := by
  have H : (if (Int.tmod (wrap64 (a0 - 10957)) 146097) < 0 then (zoneinforef04_Date.j0 k (wrap64 ((wrap64 (Int.tdiv (wrap64 (a0 - 10957)) 146097)) - 1)) (wrap64 ((Int.tmod (wrap64 (a0 - 10957)) 146097) + 146097))) else (zoneinforef04_Date.j0 k (wrap64 (Int.tdiv (wrap64 (a0 - 10957)) 146097)) (Int.tmod (wrap64 (a0 - 10957)) 146097))) = some (r1, r2, r3) := h
  clear h
  have HC2 := Aside0.mk H
  clear H
  go_enter Tryd.func23, Tryd.ntmps23
  go_upto_if 17 with (fail)
  go_cut [5, 6] (fun v5 v6 wc => ∃ (kq : Nat) (x5_1 : Int) (x6_1 : Int), v5 = .int .i64 x5_1 ∧ v6 = .int .i64 x6_1 ∧ Aside0 (zoneinforef04_Date.j0 kq x5_1 x6_1 = some (r1, r2, r3)) ∧ Aside0 (kq ≤ k) ∧ Drawn0 w wc)
  case first =>
    have H := HC2.out
    clear HC2
    by_cases c3 : (Int.tmod (wrap64 (a0 - 10957)) 146097) < 0
    · rw [if_pos c3] at H
      have c3b0 : decide ((Int.tmod (wrap64 (a0 - 10957)) 146097) < 0) = true := decide_eq_true c3
      clear c3
      (first | rw [c3b0] | (simp only [i64_w, i32_w]; rw [c3b0]) | skip)
      have H' := Aside0.mk H
      clear H
      go_wp2
      go_meet
      case rel => exact ⟨_, (wrap64 ((wrap64 (Int.tdiv (wrap64 (a0 - 10957)) 146097)) - 1)), (wrap64 ((Int.tmod (wrap64 (a0 - 10957)) 146097) + 146097)), (by first | rfl | (simp; done) | (simp [*]; done)), (by first | rfl | (simp; done) | (simp [*]; done)), H', ⟨by first | omega | exact Nat.le_refl _⟩, by repeat (first | exact Drawn0.refl _ | apply Drawn0.step)⟩
    · rw [if_neg c3] at H
      have c3b0 : decide ((Int.tmod (wrap64 (a0 - 10957)) 146097) < 0) = false := decide_eq_false c3
      clear c3
      (first | rw [c3b0] | (simp only [i64_w, i32_w]; rw [c3b0]) | skip)
      have H' := Aside0.mk H
      clear H
      go_wp2
      go_meet
      case rel => exact ⟨_, (wrap64 (Int.tdiv (wrap64 (a0 - 10957)) 146097)), (Int.tmod (wrap64 (a0 - 10957)) 146097), (by first | rfl | (simp; done) | (simp [*]; done)), (by first | rfl | (simp; done) | (simp [*]; done)), H', ⟨by first | omega | exact Nat.le_refl _⟩, by repeat (first | exact Drawn0.refl _ | apply Drawn0.step)⟩
  case rest =>
    clear HC2
    try clear c2
    try clear p2
    try clear c3
    try clear c3b0
    obtain ⟨kq, x5_1, x6_1, rfl, rfl, HA, HJ1, ⟨mc1, rfl⟩⟩ := hcut
    cases kq with
    | zero => exact absurd HA.out (by simp [zoneinforef04_Date.j0])
    | succ kj1 =>
      have H := HA.out
      clear HA
      simp only [zoneinforef04_Date.j0] at H
      have HC4 := Aside0.mk H
      clear H
      go_upto_block 0 with (fail)
      go_cut [6, 7] (fun v6 v7 wc => ∃ (kq : Nat) (x6_3 : Int) (x7_3 : Int), v6 = .int .i64 x6_3 ∧ v7 = .int .i64 x7_3 ∧ Aside0 (zoneinforef04_Date.j2 kq x5_1 x6_3 x7_3 = some (r1, r2, r3)) ∧ Aside0 (kq ≤ kj1) ∧ Drawn0 w wc)
      case first =>
        have H := HC4.out
        clear HC4
        have H' := Aside0.mk H
        clear H
        go_wp2
        go_loopg [6, 7] kj1 (fun kq v6 v7 w' => ∃ (x6_2 : Int) (x7_2 : Int), v6 = .int .i64 x6_2 ∧ v7 = .int .i64 x7_2 ∧ Aside0 (zoneinforef04_Date.l0 kq x5_1 x6_2 x7_2 = some (r1, r2, r3)) ∧ Aside0 (kq ≤ kj1) ∧ Drawn0 w w')
        case atStart => exact ⟨(x6_1), (0), (by first | rfl | (simp; done) | (simp [*]; done)), (by first | rfl | (simp; done) | (simp [*]; done)), H', ⟨Nat.le_refl _⟩, by repeat (first | exact Drawn0.refl _ | apply Drawn0.step)⟩
        case round =>
          clear H'
          try clear c1
          try clear c2
          try clear p2
          try clear c3
          try clear c3b0
          try clear p2
          obtain ⟨x6_2, x7_2, rfl, rfl, HA, HK2, ⟨m2, rfl⟩⟩ := hrel
          cases gk with
          | zero => exact absurd HA.out (by simp [zoneinforef04_Date.l0])
          | succ k2 =>
            have H := HA.out
            clear HA
            simp only [zoneinforef04_Date.l0] at H
            replace H := Option.bind_eq_some_iff.mp H
            obtain ⟨t175, A50, H⟩ := H
            replace H : (if t175 = true then (if x6_2 < 366 then (zoneinforef04_Date.j2 k2 x5_1 x6_2 x7_2) else (zoneinforef04_Date.l0 k2 x5_1 (wrap64 (x6_2 - 366)) (wrap64 (x7_2 + 1)))) else (if x6_2 < 365 then (zoneinforef04_Date.j2 k2 x5_1 x6_2 x7_2) else (zoneinforef04_Date.l0 k2 x5_1 (wrap64 (x6_2 - 365)) (wrap64 (x7_2 + 1))))) = some (r1, r2, r3) := H
            have A5 := Aside0.mk A50
            clear A50
            by_cases c6 : t175 = true
            · subst c6
              have H1 : (if x6_2 < 366 then (zoneinforef04_Date.j2 k2 x5_1 x6_2 x7_2) else (zoneinforef04_Date.l0 k2 x5_1 (wrap64 (x6_2 - 366)) (wrap64 (x7_2 + 1)))) = some (r1, r2, r3) := by rw [if_pos rfl] at H; exact H
              clear H
              have H := H1
              clear H1
              by_cases c7 : x6_2 < 366
              · rw [if_pos c7] at H
                have c7b0 : decide (x6_2 < 366) = true := decide_eq_true c7
                clear c7
                (first | rw [c7b0] | (simp only [i64_w, i32_w]; rw [c7b0]) | skip)
                have H' := Aside0.mk H
                clear H
                go_wp2_with (first | ((with_reducible refine gate_callee (f := 27) rfl ?_); refine goesL_ (some 23) rfl rfl Tryd.func27 (by kernel_rfl) rfl #[.int .i64 x7_2] rfl (by (try simp only [List.map_toArray, List.map_cons, List.map_nil]); first | done | rfl | (simp only [List.length_drop, List.length_take]; rfl)) ?_; (with_reducible refine (zoneinforef04_IsLeap.calls x7_2 true _ A5.out).mono ?_); rintro e w' ⟨rfl, ⟨nd, rfl⟩⟩; refine ⟨_, rfl, ?_⟩))
                go_meet
                case rel => exact ⟨_, (x6_2), (x7_2), (by first | rfl | (simp; done) | (simp [*]; done)), (by first | rfl | (simp; done) | (simp [*]; done)), H', ⟨by have := HJ1.out; have := HK2.out; first | omega | exact Nat.le_refl _⟩, by repeat (first | exact Drawn0.refl _ | apply Drawn0.step)⟩
              · rw [if_neg c7] at H
                have c7b0 : decide (x6_2 < 366) = false := decide_eq_false c7
                clear c7
                (first | rw [c7b0] | (simp only [i64_w, i32_w]; rw [c7b0]) | skip)
                have H' := Aside0.mk H
                clear H
                go_wp2_with (first | ((with_reducible refine gate_callee (f := 27) rfl ?_); refine goesL_ (some 23) rfl rfl Tryd.func27 (by kernel_rfl) rfl #[.int .i64 x7_2] rfl (by (try simp only [List.map_toArray, List.map_cons, List.map_nil]); first | done | rfl | (simp only [List.length_drop, List.length_take]; rfl)) ?_; (with_reducible refine (zoneinforef04_IsLeap.calls x7_2 true _ A5.out).mono ?_); rintro e w' ⟨rfl, ⟨nd, rfl⟩⟩; refine ⟨_, rfl, ?_⟩))
                go_roundg k2
                case measure => have := HJ1.out; have := HK2.out; omega
                case rel => exact ⟨(wrap64 (x6_2 - 366)), (wrap64 (x7_2 + 1)), (by first | rfl | (simp; done) | (simp [*]; done)), (by first | rfl | (simp; done) | (simp [*]; done)), H', ⟨by have := HJ1.out; have := HK2.out; omega⟩, by repeat (first | exact Drawn0.refl _ | apply Drawn0.step)⟩
            · replace c6 := Bool.eq_false_iff.mpr c6
              subst c6
              have H1 : (if x6_2 < 365 then (zoneinforef04_Date.j2 k2 x5_1 x6_2 x7_2) else (zoneinforef04_Date.l0 k2 x5_1 (wrap64 (x6_2 - 365)) (wrap64 (x7_2 + 1)))) = some (r1, r2, r3) := by rw [if_neg (show ¬ (false = true) by decide)] at H; exact H
              clear H
              have H := H1
              clear H1
              by_cases c8 : x6_2 < 365
              · rw [if_pos c8] at H
                have c8b0 : decide (x6_2 < 365) = true := decide_eq_true c8
                clear c8
                have H' := Aside0.mk H
                clear H
                go_wp2_with (first | ((with_reducible refine gate_callee (f := 27) rfl ?_); refine goesL_ (some 23) rfl rfl Tryd.func27 (by kernel_rfl) rfl #[.int .i64 x7_2] rfl (by (try simp only [List.map_toArray, List.map_cons, List.map_nil]); first | done | rfl | (simp only [List.length_drop, List.length_take]; rfl)) ?_; (with_reducible refine (zoneinforef04_IsLeap.calls x7_2 false _ A5.out).mono ?_); rintro e w' ⟨rfl, ⟨nd, rfl⟩⟩; refine ⟨_, rfl, ?_⟩))
                go_meet
                case rel => exact ⟨_, (x6_2), (x7_2), (by first | rfl | (simp; done) | (simp [*]; done)), (by first | rfl | (simp; done) | (simp [*]; done)), H', ⟨by have := HJ1.out; have := HK2.out; first | omega | exact Nat.le_refl _⟩, by repeat (first | exact Drawn0.refl _ | apply Drawn0.step)⟩
              · rw [if_neg c8] at H
                have c8b0 : decide (x6_2 < 365) = false := decide_eq_false c8
                clear c8
                have H' := Aside0.mk H
                clear H
                go_wp2_with (first | ((with_reducible refine gate_callee (f := 27) rfl ?_); refine goesL_ (some 23) rfl rfl Tryd.func27 (by kernel_rfl) rfl #[.int .i64 x7_2] rfl (by (try simp only [List.map_toArray, List.map_cons, List.map_nil]); first | done | rfl | (simp only [List.length_drop, List.length_take]; rfl)) ?_; (with_reducible refine (zoneinforef04_IsLeap.calls x7_2 false _ A5.out).mono ?_); rintro e w' ⟨rfl, ⟨nd, rfl⟩⟩; refine ⟨_, rfl, ?_⟩))
                go_roundg k2
                case measure => have := HJ1.out; have := HK2.out; omega
                case rel => exact ⟨(wrap64 (x6_2 - 365)), (wrap64 (x7_2 + 1)), (by first | rfl | (simp; done) | (simp [*]; done)), (by first | rfl | (simp; done) | (simp [*]; done)), H', ⟨by have := HJ1.out; have := HK2.out; omega⟩, by repeat (first | exact Drawn0.refl _ | apply Drawn0.step)⟩
      case rest =>
        clear HC4
        try clear c1
        try clear c2
        try clear p2
        try clear c3
        try clear c3b0
        try clear c6
        try clear p6
        try clear c7
        try clear c7b0
        try clear c8
        try clear c8b0
        try clear p2
        obtain ⟨kq, x6_3, x7_3, rfl, rfl, HA, HJ3, ⟨mc3, rfl⟩⟩ := hcut
        cases kq with
        | zero => exact absurd HA.out (by simp [zoneinforef04_Date.j2])
        | succ kj3 =>
          have H := HA.out
          clear HA
          simp only [zoneinforef04_Date.j2] at H
          have H' := Aside0.mk H
          clear H
          go_wp2
          go_loopg [6, 9] kj3 (fun kq v6 v9 w' => ∃ (x6_3 : Int) (x9_3 : Int), v6 = .int .i64 x6_3 ∧ v9 = .int .i64 x9_3 ∧ Aside0 (zoneinforef04_Date.l1 kq x5_1 x6_3 x7_3 x9_3 = some (r1, r2, r3)) ∧ Aside0 (kq ≤ kj3) ∧ Drawn0 w w')
          case atStart => exact ⟨(x6_3), (1), (by first | rfl | (simp; done) | (simp [*]; done)), (by first | rfl | (simp; done) | (simp [*]; done)), H', ⟨Nat.le_refl _⟩, by repeat (first | exact Drawn0.refl _ | apply Drawn0.step)⟩
          case round =>
            clear H'
            try clear c1
            try clear c2
            try clear p2
            try clear c3
            try clear c3b0
            try clear c6
            try clear p6
            try clear c7
            try clear c7b0
            try clear c8
            try clear c8b0
            try clear p2
            try clear p6
            obtain ⟨x6_3, x9_3, rfl, rfl, HA, HK3, ⟨m3, rfl⟩⟩ := hrel
            cases gk with
            | zero => exact absurd HA.out (by simp [zoneinforef04_Date.l1])
            | succ k3 =>
              have H := HA.out
              clear HA
              simp only [zoneinforef04_Date.l1] at H
              replace H := Option.bind_eq_some_iff.mp H
              obtain ⟨t176, A90, H⟩ := H
              replace H : (if x6_3 ≥ t176 then ((zoneinforef04_MonthDays.f k3 x7_3 x9_3).bind fun t177 => (zoneinforef04_Date.l1 k3 x5_1 (wrap64 (x6_3 - t177)) x7_3 (wrap64 (x9_3 + 1)))) else (some (wrap64 ((wrap64 (2000 + (wrap64 (400 * x5_1)))) + x7_3), x9_3, wrap64 (x6_3 + 1)))) = some (r1, r2, r3) := H
              have A9 := Aside0.mk A90
              clear A90
              by_cases c10 : x6_3 ≥ t176
              · rw [if_pos c10] at H
                have c10b0 : decide (t176 ≤ x6_3) = true := decide_eq_true c10
                clear c10
                replace H := Option.bind_eq_some_iff.mp H
                obtain ⟨t177, A110, H⟩ := H
                replace H : (zoneinforef04_Date.l1 k3 x5_1 (wrap64 (x6_3 - t177)) x7_3 (wrap64 (x9_3 + 1))) = some (r1, r2, r3) := H
                have A11 := Aside0.mk A110
                clear A110
                have H' := Aside0.mk H
                clear H
                go_wp2_with (first | ((with_reducible refine gate_callee (f := 31) rfl ?_); refine goesL_ (some 35) rfl rfl Tryd.func31 (by kernel_rfl) rfl #[.int .i64 x7_3, .int .i64 x9_3] rfl (by (try simp only [List.map_toArray, List.map_cons, List.map_nil]); first | done | rfl | (simp only [List.length_drop, List.length_take]; rfl)) ?_; (with_reducible refine (zoneinforef04_MonthDays.calls k3 x7_3 x9_3 t176 _ A9.out).mono ?_); rintro e w' ⟨rfl, ⟨nd, rfl⟩⟩; refine ⟨_, rfl, ?_⟩) | ((with_reducible refine gate_callee (f := 31) rfl ?_); refine goesL_ (some 40) rfl rfl Tryd.func31 (by kernel_rfl) rfl #[.int .i64 x7_3, .int .i64 x9_3] rfl (by (try simp only [List.map_toArray, List.map_cons, List.map_nil]); first | done | rfl | (simp only [List.length_drop, List.length_take]; rfl)) ?_; (with_reducible refine (zoneinforef04_MonthDays.calls k3 x7_3 x9_3 t177 _ A11.out).mono ?_); rintro e w' ⟨rfl, ⟨nd, rfl⟩⟩; refine ⟨_, rfl, ?_⟩))
                go_roundg k3
                case measure => have := HJ1.out; have := HJ3.out; have := HK3.out; omega
                case rel => exact ⟨(wrap64 (x6_3 - t177)), (wrap64 (x9_3 + 1)), (by first | rfl | (simp; done) | (simp [*]; done)), (by first | rfl | (simp; done) | (simp [*]; done)), H', ⟨by have := HJ1.out; have := HJ3.out; have := HK3.out; omega⟩, by repeat (first | exact Drawn0.refl _ | apply Drawn0.step)⟩
              · rw [if_neg c10] at H
                have c10b0 : decide (t176 ≤ x6_3) = false := decide_eq_false c10
                clear c10
                simp only [Option.some.injEq, Prod.mk.injEq] at H
                obtain ⟨rfl, rfl, rfl⟩ := H
                go_wp2_with (first | ((with_reducible refine gate_callee (f := 31) rfl ?_); refine goesL_ (some 35) rfl rfl Tryd.func31 (by kernel_rfl) rfl #[.int .i64 x7_3, .int .i64 x9_3] rfl (by (try simp only [List.map_toArray, List.map_cons, List.map_nil]); first | done | rfl | (simp only [List.length_drop, List.length_take]; rfl)) ?_; (with_reducible refine (zoneinforef04_MonthDays.calls k3 x7_3 x9_3 t176 _ A9.out).mono ?_); rintro e w' ⟨rfl, ⟨nd, rfl⟩⟩; refine ⟨_, rfl, ?_⟩))
                go_ret3
                exact ⟨by first | rfl | (simp; done) | (simp [*]; done), by repeat (first | exact Drawn0.refl _ | apply Drawn0.step)⟩

/-! ### zoneinforef05_Of: function 14 -/
def zoneinforef05_Of.f (k : Nat) (a0 : Int) : Option (Int × Int × Int × Int × Int × Int × Int) := (zoneinforef05_Split.f a0).bind fun bt179 => ((zoneinforef04_Date.f k bt179.1).bind fun bt181 => ((zoneinforef04_Weekday.f bt179.1).bind fun t184 => (some (bt181.1, bt181.2.1, bt181.2.2, wrap64 (Int.tdiv bt179.2 3600), wrap64 (Int.tdiv (Int.tmod bt179.2 3600) 60), Int.tmod bt179.2 60, t184))))
theorem zoneinforef05_Of.mono : ∀ a0 k, LeO (zoneinforef05_Of.f k a0) (zoneinforef05_Of.f (k + 1) a0) := by
  intro a0 k
  unfold zoneinforef05_Of.f
  repeat' first
      | (with_reducible exact zoneinforef04_Date.mono _ _)
      | (with_reducible exact LeO.refl _)
      | (with_reducible exact LeO.none _)
      | (with_reducible refine LeO.ite ?_ ?_)
      | (with_reducible refine LeO.bind ?_ (fun _ => ?_))
      | exact zoneinforef04_Date.mono _ _
      | exact LeO.none _
      | refine LeO.ite ?_ ?_
      | refine LeO.bind ?_ (fun _ => ?_)
set_option maxHeartbeats 8000000 in
set_option maxRecDepth 100000 in
theorem zoneinforef05_Of.calls (k : Nat) (a0 : Int) (r1 : Int) (r2 : Int) (r3 : Int) (r4 : Int) (r5 : Int) (r6 : Int) (r7 : Int) (w : World) (h : zoneinforef05_Of.f k a0 = some (r1, r2, r3, r4, r5, r6, r7)) :
    Calls Tryd.prog 14 #[.int .i64 a0] w fun e w' => e = .returned (.agg #[.int .i64 r1, .int .i64 r2, .int .i64 r3, .int .i64 r4, .int .i64 r5, .int .i64 r6, .int .i64 r7]) ∧ Below w.heap.size w w' := by
  have hu23 := Tryd.underlying23
  have HB := Aside0.mk (Below.refl w.heap.size w)
  have H : ((zoneinforef05_Split.f a0).bind fun bt179 => ((zoneinforef04_Date.f k bt179.1).bind fun bt181 => ((zoneinforef04_Weekday.f bt179.1).bind fun t184 => (some (bt181.1, bt181.2.1, bt181.2.2, wrap64 (Int.tdiv bt179.2 3600), wrap64 (Int.tdiv (Int.tmod bt179.2 3600) 60), Int.tmod bt179.2 60, t184))))) = some (r1, r2, r3, r4, r5, r6, r7) := h
  clear h
  replace H := Option.bind_eq_some_iff.mp H
  obtain ⟨⟨t179, t180⟩, A20, H⟩ := H
  replace H : ((zoneinforef04_Date.f k t179).bind fun bt181 => ((zoneinforef04_Weekday.f t179).bind fun t184 => (some (bt181.1, bt181.2.1, bt181.2.2, wrap64 (Int.tdiv t180 3600), wrap64 (Int.tdiv (Int.tmod t180 3600) 60), Int.tmod t180 60, t184)))) = some (r1, r2, r3, r4, r5, r6, r7) := H
  have A2 := Aside0.mk A20
  clear A20
  replace H := Option.bind_eq_some_iff.mp H
  obtain ⟨⟨t181, t182, t183⟩, A30, H⟩ := H
  replace H : ((zoneinforef04_Weekday.f t179).bind fun t184 => (some (t181, t182, t183, wrap64 (Int.tdiv t180 3600), wrap64 (Int.tdiv (Int.tmod t180 3600) 60), Int.tmod t180 60, t184))) = some (r1, r2, r3, r4, r5, r6, r7) := H
  have A3 := Aside0.mk A30
  clear A30
  replace H := Option.bind_eq_some_iff.mp H
  obtain ⟨t184, A40, H⟩ := H
  replace H : (some (t181, t182, t183, wrap64 (Int.tdiv t180 3600), wrap64 (Int.tdiv (Int.tmod t180 3600) 60), Int.tmod t180 60, t184)) = some (r1, r2, r3, r4, r5, r6, r7) := H
  have A4 := Aside0.mk A40
  clear A40
  simp only [Option.some.injEq, Prod.mk.injEq] at H
  obtain ⟨rfl, rfl, rfl, rfl, rfl, rfl, rfl⟩ := H
  go_enter Tryd.func14, Tryd.ntmps14
  go_wp2_with (first | ((with_reducible refine gate_dst (N := 2) rfl ?_); refine box_event ?hg (N := 2) ?hd (cs := #[.int .i64 0, .int .i64 0, .int .i64 0, .int .i64 0, .int .i64 0, .int .i64 0, .int .i64 0]) (t := 23) ?hr ?_; (case hd => rfl); (case hg => rfl); (case hr => first | (go_simp; done) | (go_simp; rfl)); intro gb178 hg w5 hbox hb; have n0_ := Aside0.mk (below_step (by repeat (first | (with_reducible first | exact HB.out | apply below_alloc | apply pw_below_drewN | apply below_drew1) | exact HB.out)) hb); have n1_ := Aside0.mk (hbox); have n2_ := Aside0.mk ((by rw [hg]; exact (below_size (by repeat (first | (with_reducible first | exact HB.out | apply below_alloc | apply pw_below_drewN | apply below_drew1) | exact HB.out))) : w.heap.size ≤ gb178)); have n3_ := Aside0.mk ((by rw [hg]; exact (below_size (by repeat (first | (with_reducible first | exact HB.out | apply below_alloc | apply pw_below_drewN | apply below_drew1) | exact HB.out))) : w.heap.size ≤ gb178)); clear HB; have HB := n0_; have BK178 := n1_; have GW178 := n2_; have GE178 := n3_; clear n0_ n1_ n2_ n3_; clear hb hbox hg) | ((with_reducible refine gate_callee (f := 10) rfl ?_); refine goesL_ (some 10) rfl rfl Tryd.func10 (by kernel_rfl) rfl #[.int .i64 a0] rfl (by (try simp only [List.map_toArray, List.map_cons, List.map_nil]); first | done | rfl | (simp only [List.length_drop, List.length_take]; rfl)) ?_; (with_reducible refine (zoneinforef05_Split.calls a0 t179 t180 _ A2.out).mono ?_); rintro e w' ⟨rfl, ⟨nd, rfl⟩⟩; refine ⟨_, rfl, ?_⟩; (try (rw [drewN_self w5]; generalize hq_ : World.drewN w5 _ = w5; have n0_ : Aside0 (w5.heap[gb178]? = some (.cells #[.int .i64 0, .int .i64 0, .int .i64 0, .int .i64 0, .int .i64 0, .int .i64 0, .int .i64 0] 23 (0, 0))) := ⟨by rw [← hq_]; exact (by (with_reducible repeat (first | refine blk_drewN ?_ _ | refine blk_drew ?_ | refine blk_alloc ?_ _)); exact BK178.out)⟩; have n1_ : Aside0 (Below w.heap.size w w5) := ⟨by rw [← hq_]; exact (by repeat (first | (with_reducible first | exact HB.out | apply below_alloc | apply pw_below_drewN | apply below_drew1 | refine below_set ?_ GE178.out) | exact HB.out))⟩; clear BK178 HB hq_; have BK178 := n0_; have HB := n1_; clear n0_ n1_))) | ((with_reducible refine gate_callee (f := 23) rfl ?_); refine goesL_ (some 15) rfl rfl Tryd.func23 (by kernel_rfl) rfl #[.int .i64 t179] rfl (by (try simp only [List.map_toArray, List.map_cons, List.map_nil]); first | done | rfl | (simp only [List.length_drop, List.length_take]; rfl)) ?_; (with_reducible refine (zoneinforef04_Date.calls k t179 t181 t182 t183 _ A3.out).mono ?_); rintro e w' ⟨rfl, ⟨nd, rfl⟩⟩; refine ⟨_, rfl, ?_⟩; (try (rw [drewN_self w5]; generalize hq_ : World.drewN w5 _ = w5; have n0_ : Aside0 (w5.heap[gb178]? = some (.cells #[.int .i64 0, .int .i64 0, .int .i64 0, .int .i64 0, .int .i64 0, .int .i64 0, .int .i64 0] 23 (0, 0))) := ⟨by rw [← hq_]; exact (by (with_reducible repeat (first | refine blk_drewN ?_ _ | refine blk_drew ?_ | refine blk_alloc ?_ _)); exact BK178.out)⟩; have n1_ : Aside0 (Below w.heap.size w w5) := ⟨by rw [← hq_]; exact (by repeat (first | (with_reducible first | exact HB.out | apply below_alloc | apply pw_below_drewN | apply below_drew1 | refine below_set ?_ GE178.out) | exact HB.out))⟩; clear BK178 HB hq_; have BK178 := n0_; have HB := n1_; clear n0_ n1_))) | ((with_reducible refine gate_callee (f := 24) rfl ?_); refine goesL_ (some 30) rfl rfl Tryd.func24 (by kernel_rfl) rfl #[.int .i64 t179] rfl (by (try simp only [List.map_toArray, List.map_cons, List.map_nil]); first | done | rfl | (simp only [List.length_drop, List.length_take]; rfl)) ?_; (with_reducible refine (zoneinforef04_Weekday.calls t179 t184 _ A4.out).mono ?_); rintro e w' ⟨rfl, ⟨nd, rfl⟩⟩; refine ⟨_, rfl, ?_⟩; (try (rw [drewN_self w5]; generalize hq_ : World.drewN w5 _ = w5; have n0_ : Aside0 (w5.heap[gb178]? = some (.cells #[.int .i64 0, .int .i64 0, .int .i64 0, .int .i64 0, .int .i64 0, .int .i64 0, .int .i64 0] 23 (0, 0))) := ⟨by rw [← hq_]; exact (by (with_reducible repeat (first | refine blk_drewN ?_ _ | refine blk_drew ?_ | refine blk_alloc ?_ _)); exact BK178.out)⟩; have n1_ : Aside0 (Below w.heap.size w w5) := ⟨by rw [← hq_]; exact (by repeat (first | (with_reducible first | exact HB.out | apply below_alloc | apply pw_below_drewN | apply below_drew1 | refine below_set ?_ GE178.out) | exact HB.out))⟩; clear BK178 HB hq_; have BK178 := n0_; have HB := n1_; clear n0_ n1_)); have hcz6_0 : w5.cell? ⟨gb178, 0, none⟩ = some (.int .i64 0) := (blk_cell BK178.out 0).trans rfl; have hcz6_1 : w5.cell? ⟨gb178, 1, none⟩ = some (.int .i64 0) := (blk_cell BK178.out 1).trans rfl; have hcz6_2 : w5.cell? ⟨gb178, 2, none⟩ = some (.int .i64 0) := (blk_cell BK178.out 2).trans rfl; have hcz6_3 : w5.cell? ⟨gb178, 3, none⟩ = some (.int .i64 0) := (blk_cell BK178.out 3).trans rfl; have hcz6_4 : w5.cell? ⟨gb178, 4, none⟩ = some (.int .i64 0) := (blk_cell BK178.out 4).trans rfl; have hcz6_5 : w5.cell? ⟨gb178, 5, none⟩ = some (.int .i64 0) := (blk_cell BK178.out 5).trans rfl; have hcz6_6 : w5.cell? ⟨gb178, 6, none⟩ = some (.int .i64 0) := (blk_cell BK178.out 6).trans rfl; have hfz6_0 := blk_frozen BK178.out 0; have hfz6_1 := blk_frozen BK178.out 1; have hfz6_2 := blk_frozen BK178.out 2; have hfz6_3 := blk_frozen BK178.out 3; have hfz6_4 := blk_frozen BK178.out 4; have hfz6_5 := blk_frozen BK178.out 5; have hfz6_6 := blk_frozen BK178.out 6))
  refine bodyPost_ret (results_cell_row rfl _ _ gb178 23 #[.int .i64 t181, .int .i64 t182, .int .i64 t183, .int .i64 (wrap64 (Int.tdiv t180 3600)), .int .i64 (wrap64 (Int.tdiv (Int.tmod t180 3600) 60)), .int .i64 (Int.tmod t180 60), .int .i64 t184] (0, 0) _ rfl (by (with_reducible repeat (first | refine blk_drewN ?_ _ | refine blk_drew ?_ | refine blk_alloc ?_ _)); refine blk_put (cs := #[.int .i64 t181, .int .i64 t182, .int .i64 t183, .int .i64 (wrap64 (Int.tdiv t180 3600)), .int .i64 (wrap64 (Int.tdiv (Int.tmod t180 3600) 60)), .int .i64 (Int.tmod t180 60), .int .i64 0]) ?_ 6 _ rfl; (with_reducible repeat (first | refine blk_drewN ?_ _ | refine blk_drew ?_ | refine blk_alloc ?_ _)); refine blk_put (cs := #[.int .i64 t181, .int .i64 t182, .int .i64 t183, .int .i64 (wrap64 (Int.tdiv t180 3600)), .int .i64 (wrap64 (Int.tdiv (Int.tmod t180 3600) 60)), .int .i64 0, .int .i64 0]) ?_ 5 _ rfl; (with_reducible repeat (first | refine blk_drewN ?_ _ | refine blk_drew ?_ | refine blk_alloc ?_ _)); refine blk_put (cs := #[.int .i64 t181, .int .i64 t182, .int .i64 t183, .int .i64 (wrap64 (Int.tdiv t180 3600)), .int .i64 0, .int .i64 0, .int .i64 0]) ?_ 4 _ rfl; (with_reducible repeat (first | refine blk_drewN ?_ _ | refine blk_drew ?_ | refine blk_alloc ?_ _)); refine blk_put (cs := #[.int .i64 t181, .int .i64 t182, .int .i64 t183, .int .i64 0, .int .i64 0, .int .i64 0, .int .i64 0]) ?_ 3 _ rfl; (with_reducible repeat (first | refine blk_drewN ?_ _ | refine blk_drew ?_ | refine blk_alloc ?_ _)); refine blk_put (cs := #[.int .i64 t181, .int .i64 t182, .int .i64 0, .int .i64 0, .int .i64 0, .int .i64 0, .int .i64 0]) ?_ 2 _ rfl; (with_reducible repeat (first | refine blk_drewN ?_ _ | refine blk_drew ?_ | refine blk_alloc ?_ _)); refine blk_put (cs := #[.int .i64 t181, .int .i64 0, .int .i64 0, .int .i64 0, .int .i64 0, .int .i64 0, .int .i64 0]) ?_ 1 _ rfl; (with_reducible repeat (first | refine blk_drewN ?_ _ | refine blk_drew ?_ | refine blk_alloc ?_ _)); refine blk_put (cs := #[.int .i64 0, .int .i64 0, .int .i64 0, .int .i64 0, .int .i64 0, .int .i64 0, .int .i64 0]) ?_ 0 _ rfl; (with_reducible repeat (first | refine blk_drewN ?_ _ | refine blk_drew ?_ | refine blk_alloc ?_ _)); exact BK178.out) Tryd.underlying23 rfl (by kernel_rfl)) rfl ?_
  exact ⟨by first | rfl | (simp [errW_none, errW_some] <;> rfl) | (simp [*, errW_none, errW_some] <;> rfl), by repeat (first | (with_reducible first | exact HB.out | apply below_alloc | apply pw_below_drewN | apply below_drew1 | refine below_set ?_ GE178.out) | exact HB.out)⟩

end Go.Proofs.YtmfffkmnddeajaaDoor.G
