-- written by a program of this session (gp), for this seat alone
import Derived.Test.YtkjladlaicdhpaaGx0
import Derived.Test.YtkjladlaicdhpaaGx1
import Derived.Test.YtkjladlaicdhpaaGx2
import Derived.Test.YtkjladlaicdhpaaGx3
import Derived.Test.YtkjladlaicdhpaaGx4
import Derived.Test.YtkjladlaicdhpaaGx5
import Derived.Test.YtkjladlaicdhpaaGx6
import Derived.Test.YtkjladlaicdhpaaGx7
namespace Go.Proofs.Ytkjladlaicdhpaa.G
open Go.RowKit Go.Proofs.YtkjladlaicdhpaaW.PrintWords Go.Proofs.YtkjladlaicdhpaaW.PrintLast Go.Proofs.YtkjladlaicdhpaaW.PrintMore
attribute [local go_sem] max2_int min2_int max_two min_two max_three min_three max_four min_four   -- for this text's walks alone
set_option linter.unusedVariables false
set_option linter.unusedSimpArgs false

/-! ### zoneinfolaw01_BigendianRoundTrip: function 4 -/
mutual
def zoneinfolaw01_BigendianRoundTrip.j0 : Nat → List Int → Int → Int → Int → Bool → Option (Bool)
  | 0, _, _, _, _, _ => none
  | k + 1, x0, x1, x2, x3, x23 => if x23 = true then ((zoneinfolaw01_awake.f k).bind fun t195 => (some t195)) else ((zoneinforef01_Width.f x1).bind fun t196 => ((bigendian_Append.f k x0 t196 x2).bind fun t197 => (if (t197.length : Int) = (wrap64 ((x0.length : Int) + t196)) then (if 0 ≤ (x0.length : Int) then (if (x0.length : Int) ≤ (t197.length : Int) then ((zoneinforef01_Same.f k (t197.take ((x0.length : Int) : Int).toNat) x0).bind fun t204 => (zoneinfolaw01_BigendianRoundTrip.j1 k x0 x2 x3 t196 t197 (!t204))) else (none)) else (none)) else (zoneinfolaw01_BigendianRoundTrip.j1 k x0 x2 x3 t196 t197 true))))
def zoneinfolaw01_BigendianRoundTrip.j1 : Nat → List Int → Int → Int → Int → List Int → Bool → Option (Bool)
  | 0, _, _, _, _, _, _ => none
  | k + 1, x0, x2, x3, x9, x10, x46 => if x46 = true then (some false) else ((bigendian_Uint.f k x10 (x0.length : Int) x9).bind fun bt205 => (if x9 < 8 then (if 0 ≤ (IntKind.u64.wrap (8 * (IntKind.u64.wrap (x9)))) then (if (shl .u64 1 (IntKind.u64.wrap (8 * (IntKind.u64.wrap (x9))))) = 0 then (none) else (zoneinfolaw01_BigendianRoundTrip.j2 k x0 x3 x9 bt205.1 bt205.2 (Int.tmod x2 (shl .u64 1 (IntKind.u64.wrap (8 * (IntKind.u64.wrap (x9)))))))) else (none)) else (zoneinfolaw01_BigendianRoundTrip.j2 k x0 x3 x9 bt205.1 bt205.2 x2)))
def zoneinfolaw01_BigendianRoundTrip.j2 : Nat → List Int → Int → Int → Int → Bool → Int → Option (Bool)
  | 0, _, _, _, _, _, _ => none
  | k + 1, x0, x3, x9, x11, x12, x13 => (bigendian_Append.f k x0 x9 (IntKind.u64.wrap (x3))).bind fun t207 => ((bigendian_Int.f k t207 (x0.length : Int) x9).bind fun bt210 => (if x12 = true then (if x11 = x13 then (if bt210.2 = true then ((bigendian_Fits.f x3 x9).bind fun t212 => (if ((bt210.1 == x3) == t212) = true then ((bigendian_Fits.f bt210.1 x9).bind fun t213 => (some t213)) else (some false))) else (some false)) else (some false)) else (some false)))
end
def zoneinfolaw01_BigendianRoundTrip.f (k : Nat) (l0 : List Int) (a1 : Int) (a2 : Int) (a3 : Int) : Option (Bool) := (zoneinfolaw01_awake.f k).bind fun t194 => (if t194 = true then (zoneinfolaw01_BigendianRoundTrip.j0 k l0 a1 a2 a3 (decide ((l0.length : Int) > 1000))) else (zoneinfolaw01_BigendianRoundTrip.j0 k l0 a1 a2 a3 true))
theorem zoneinfolaw01_BigendianRoundTrip.mono_l : ∀ k, (∀ y0 y1 y2 y3 y4, LeO (zoneinfolaw01_BigendianRoundTrip.j0 k y0 y1 y2 y3 y4) (zoneinfolaw01_BigendianRoundTrip.j0 (k + 1) y0 y1 y2 y3 y4)) ∧ (∀ y0 y1 y2 y3 y4 y5, LeO (zoneinfolaw01_BigendianRoundTrip.j1 k y0 y1 y2 y3 y4 y5) (zoneinfolaw01_BigendianRoundTrip.j1 (k + 1) y0 y1 y2 y3 y4 y5)) ∧ (∀ y0 y1 y2 y3 y4 y5, LeO (zoneinfolaw01_BigendianRoundTrip.j2 k y0 y1 y2 y3 y4 y5) (zoneinfolaw01_BigendianRoundTrip.j2 (k + 1) y0 y1 y2 y3 y4 y5))
  | 0 => ⟨fun _ _ _ _ _ r h => by simp [zoneinfolaw01_BigendianRoundTrip.j0] at h, fun _ _ _ _ _ _ r h => by simp [zoneinfolaw01_BigendianRoundTrip.j1] at h, fun _ _ _ _ _ _ r h => by simp [zoneinfolaw01_BigendianRoundTrip.j2] at h⟩
  | k + 1 => by
    obtain ⟨ih0, ih1, ih2⟩ := zoneinfolaw01_BigendianRoundTrip.mono_l k
    refine ⟨?_, ?_, ?_⟩
    · intro y0 y1 y2 y3 y4
      unfold zoneinfolaw01_BigendianRoundTrip.j0
      repeat' first
      | (with_reducible exact ih0 _ _ _ _ _)
      | (with_reducible exact ih1 _ _ _ _ _ _)
      | (with_reducible exact ih2 _ _ _ _ _ _)
      | (with_reducible exact bigendian_Append.mono _ _ _ _)
      | (with_reducible exact bigendian_Int.mono _ _ _ _)
      | (with_reducible exact bigendian_Uint.mono _ _ _ _)
      | (with_reducible exact zoneinfolaw01_awake.mono _)
      | (with_reducible exact zoneinforef01_Same.mono _ _ _)
      | (with_reducible exact LeO.refl _)
      | (with_reducible exact LeO.none _)
      | (with_reducible refine LeO.ite ?_ ?_)
      | (with_reducible refine LeO.bind ?_ (fun _ => ?_))
      | exact ih0 _ _ _ _ _
      | exact ih1 _ _ _ _ _ _
      | exact ih2 _ _ _ _ _ _
      | exact bigendian_Append.mono _ _ _ _
      | exact bigendian_Int.mono _ _ _ _
      | exact bigendian_Uint.mono _ _ _ _
      | exact zoneinfolaw01_awake.mono _
      | exact zoneinforef01_Same.mono _ _ _
      | exact LeO.none _
      | refine LeO.ite ?_ ?_
      | refine LeO.bind ?_ (fun _ => ?_)
    · intro y0 y1 y2 y3 y4 y5
      unfold zoneinfolaw01_BigendianRoundTrip.j1
      repeat' first
      | (with_reducible exact ih0 _ _ _ _ _)
      | (with_reducible exact ih1 _ _ _ _ _ _)
      | (with_reducible exact ih2 _ _ _ _ _ _)
      | (with_reducible exact bigendian_Append.mono _ _ _ _)
      | (with_reducible exact bigendian_Int.mono _ _ _ _)
      | (with_reducible exact bigendian_Uint.mono _ _ _ _)
      | (with_reducible exact zoneinfolaw01_awake.mono _)
      | (with_reducible exact zoneinforef01_Same.mono _ _ _)
      | (with_reducible exact LeO.refl _)
      | (with_reducible exact LeO.none _)
      | (with_reducible refine LeO.ite ?_ ?_)
      | (with_reducible refine LeO.bind ?_ (fun _ => ?_))
      | exact ih0 _ _ _ _ _
      | exact ih1 _ _ _ _ _ _
      | exact ih2 _ _ _ _ _ _
      | exact bigendian_Append.mono _ _ _ _
      | exact bigendian_Int.mono _ _ _ _
      | exact bigendian_Uint.mono _ _ _ _
      | exact zoneinfolaw01_awake.mono _
      | exact zoneinforef01_Same.mono _ _ _
      | exact LeO.none _
      | refine LeO.ite ?_ ?_
      | refine LeO.bind ?_ (fun _ => ?_)
    · intro y0 y1 y2 y3 y4 y5
      unfold zoneinfolaw01_BigendianRoundTrip.j2
      repeat' first
      | (with_reducible exact ih0 _ _ _ _ _)
      | (with_reducible exact ih1 _ _ _ _ _ _)
      | (with_reducible exact ih2 _ _ _ _ _ _)
      | (with_reducible exact bigendian_Append.mono _ _ _ _)
      | (with_reducible exact bigendian_Int.mono _ _ _ _)
      | (with_reducible exact bigendian_Uint.mono _ _ _ _)
      | (with_reducible exact zoneinfolaw01_awake.mono _)
      | (with_reducible exact zoneinforef01_Same.mono _ _ _)
      | (with_reducible exact LeO.refl _)
      | (with_reducible exact LeO.none _)
      | (with_reducible refine LeO.ite ?_ ?_)
      | (with_reducible refine LeO.bind ?_ (fun _ => ?_))
      | exact ih0 _ _ _ _ _
      | exact ih1 _ _ _ _ _ _
      | exact ih2 _ _ _ _ _ _
      | exact bigendian_Append.mono _ _ _ _
      | exact bigendian_Int.mono _ _ _ _
      | exact bigendian_Uint.mono _ _ _ _
      | exact zoneinfolaw01_awake.mono _
      | exact zoneinforef01_Same.mono _ _ _
      | exact LeO.none _
      | refine LeO.ite ?_ ?_
      | refine LeO.bind ?_ (fun _ => ?_)
theorem zoneinfolaw01_BigendianRoundTrip.mono : ∀ a0 a1 a2 a3 k, LeO (zoneinfolaw01_BigendianRoundTrip.f k a0 a1 a2 a3) (zoneinfolaw01_BigendianRoundTrip.f (k + 1) a0 a1 a2 a3) := by
  intro a0 a1 a2 a3 k
  obtain ⟨ih0, ih1, ih2⟩ := zoneinfolaw01_BigendianRoundTrip.mono_l k
  unfold zoneinfolaw01_BigendianRoundTrip.f
  repeat' first
      | (with_reducible exact ih0 _ _ _ _ _)
      | (with_reducible exact ih1 _ _ _ _ _ _)
      | (with_reducible exact ih2 _ _ _ _ _ _)
      | (with_reducible exact bigendian_Append.mono _ _ _ _)
      | (with_reducible exact bigendian_Int.mono _ _ _ _)
      | (with_reducible exact bigendian_Uint.mono _ _ _ _)
      | (with_reducible exact zoneinfolaw01_awake.mono _)
      | (with_reducible exact zoneinforef01_Same.mono _ _ _)
      | (with_reducible exact LeO.refl _)
      | (with_reducible exact LeO.none _)
      | (with_reducible refine LeO.ite ?_ ?_)
      | (with_reducible refine LeO.bind ?_ (fun _ => ?_))
      | exact ih0 _ _ _ _ _
      | exact ih1 _ _ _ _ _ _
      | exact ih2 _ _ _ _ _ _
      | exact bigendian_Append.mono _ _ _ _
      | exact bigendian_Int.mono _ _ _ _
      | exact bigendian_Uint.mono _ _ _ _
      | exact zoneinfolaw01_awake.mono _
      | exact zoneinforef01_Same.mono _ _ _
      | exact LeO.none _
      | refine LeO.ite ?_ ?_
      | refine LeO.bind ?_ (fun _ => ?_)
set_option maxHeartbeats 8000000 in
set_option maxRecDepth 100000 in
theorem zoneinfolaw01_BigendianRoundTrip.calls (k : Nat) (A0 : Option Addr) (c0 : Nat) (l0 : List Int) (a1 : Int) (a2 : Int) (a3 : Int) (r : Bool) (w : World) (hr0 : Kd.C (Kd.int .u8) w A0 l0.length l0) (hc0 : l0.length ≤ c0) (h : zoneinfolaw01_BigendianRoundTrip.f k l0 a1 a2 a3 = some r) :
    Calls Try.prog 4 #[.slice A0 l0.length c0, .int .u8 a1, .int .u64 a2, .int .i64 a3] w fun e w' => e = .returned (.bool r) ∧ Below w.heap.size w w' := by
  have HR0 := Aside0.mk hr0
  have HC0 := Aside0.mk hc0
  clear hr0 hc0
  have HB := Aside0.mk (Below.refl w.heap.size w)
  have H : ((zoneinfolaw01_awake.f k).bind fun t194 => (if t194 = true then (zoneinfolaw01_BigendianRoundTrip.j0 k l0 a1 a2 a3 (decide ((l0.length : Int) > 1000))) else (zoneinfolaw01_BigendianRoundTrip.j0 k l0 a1 a2 a3 true))) = some r := h
  clear h
  have HC5 := Aside0.mk H
  clear H
  go_enter Try.func4, Try.ntmps4
  go_upto_region 1 with (fail)
  go_cut [23] (fun v23 wc => ∃ (kq : Nat) (x23_4 : Bool), v23 = .bool x23_4 ∧ Aside0 (zoneinfolaw01_BigendianRoundTrip.j0 kq l0 a1 a2 a3 x23_4 = some r) ∧ Aside0 (kq ≤ k) ∧ Aside0 (Below w.heap.size w wc))
  case first =>
    have H := HC5.out
    clear HC5
    replace H := Option.bind_eq_some_iff.mp H
    obtain ⟨t194, A60, H⟩ := H
    replace H : (if t194 = true then (zoneinfolaw01_BigendianRoundTrip.j0 k l0 a1 a2 a3 (decide ((l0.length : Int) > 1000))) else (zoneinfolaw01_BigendianRoundTrip.j0 k l0 a1 a2 a3 true)) = some r := H
    have A6 := Aside0.mk A60
    clear A60
    by_cases c7 : t194 = true
    · subst c7
      have H1 : (zoneinfolaw01_BigendianRoundTrip.j0 k l0 a1 a2 a3 (decide ((l0.length : Int) > 1000))) = some r := by rw [if_pos rfl] at H; exact H
      clear H
      have H := H1
      clear H1
      have H' := Aside0.mk H
      clear H
      go_wp2_with (first | ((with_reducible refine gate_callee (f := 8) rfl ?_); refine goesL_ (some 17) rfl rfl Try.func8 (by kernel_rfl) rfl #[] rfl (by (try simp only [List.map_toArray, List.map_cons, List.map_nil]); first | done | rfl | (simp only [List.length_drop, List.length_take]; rfl)) ?_; (with_reducible refine (zoneinfolaw01_awake.calls k  true _ A6.out).mono ?_); rintro e w8 ⟨rfl, hb⟩; refine ⟨_, rfl, ?_⟩; have n0_ := Aside0.mk (below_step (by repeat (first | (with_reducible first | exact HB.out | apply below_alloc | apply pw_below_drewN | apply below_drew1) | exact HB.out)) hb); clear HB; have HB := n0_; clear n0_; (try clear hb); (try clear hb2); (try clear hk); (try clear hi)))
      go_meet
      case rel => exact ⟨_, (decide ((l0.length : Int) > 1000)), (by first | rfl | (simp; done) | (simp [*]; done)), H', ⟨by first | omega | exact Nat.le_refl _⟩, ⟨by repeat (first | (with_reducible first | exact HB.out | apply below_alloc | apply pw_below_drewN | apply below_drew1) | exact HB.out)⟩⟩
    · replace c7 := Bool.eq_false_iff.mpr c7
      subst c7
      have H1 : (zoneinfolaw01_BigendianRoundTrip.j0 k l0 a1 a2 a3 true) = some r := by rw [if_neg (show ¬ (false = true) by decide)] at H; exact H
      clear H
      have H := H1
      clear H1
      have H' := Aside0.mk H
      clear H
      go_wp2_with (first | ((with_reducible refine gate_callee (f := 8) rfl ?_); refine goesL_ (some 17) rfl rfl Try.func8 (by kernel_rfl) rfl #[] rfl (by (try simp only [List.map_toArray, List.map_cons, List.map_nil]); first | done | rfl | (simp only [List.length_drop, List.length_take]; rfl)) ?_; (with_reducible refine (zoneinfolaw01_awake.calls k  false _ A6.out).mono ?_); rintro e w9 ⟨rfl, hb⟩; refine ⟨_, rfl, ?_⟩; have n0_ := Aside0.mk (below_step (by repeat (first | (with_reducible first | exact HB.out | apply below_alloc | apply pw_below_drewN | apply below_drew1) | exact HB.out)) hb); clear HB; have HB := n0_; clear n0_; (try clear hb); (try clear hb2); (try clear hk); (try clear hi)))
      go_meet
      case rel => exact ⟨_, (true), (by first | rfl | (simp; done) | (simp [*]; done)), H', ⟨by first | omega | exact Nat.le_refl _⟩, ⟨by repeat (first | (with_reducible first | exact HB.out | apply below_alloc | apply pw_below_drewN | apply below_drew1) | exact HB.out)⟩⟩
  case rest =>
    clear HC5
    try clear p2
    try clear c4
    try clear c7
    try clear c8
    obtain ⟨kq, x23_4, rfl, HA, HJ4, HB⟩ := hcut
    cases kq with
    | zero => exact absurd HA.out (by simp [zoneinfolaw01_BigendianRoundTrip.j0])
    | succ kj4 =>
      have H := HA.out
      clear HA
      simp only [zoneinfolaw01_BigendianRoundTrip.j0] at H
      by_cases c10 : x23_4 = true
      · subst c10
        have H1 : ((zoneinfolaw01_awake.f kj4).bind fun t195 => (some t195)) = some r := by rw [if_pos rfl] at H; exact H
        clear H
        have H := H1
        clear H1
        replace H := Option.bind_eq_some_iff.mp H
        obtain ⟨t195, A110, H⟩ := H
        replace H : (some t195) = some r := H
        have A11 := Aside0.mk A110
        clear A110
        obtain rfl := Option.some.inj H
        go_wp2_with (first | ((with_reducible refine gate_callee (f := 8) rfl ?_); refine goesL_ (some 24) rfl rfl Try.func8 (by kernel_rfl) rfl #[] rfl (by (try simp only [List.map_toArray, List.map_cons, List.map_nil]); first | done | rfl | (simp only [List.length_drop, List.length_take]; rfl)) ?_; (with_reducible refine (zoneinfolaw01_awake.calls kj4  t195 _ A11.out).mono ?_); rintro e w12 ⟨rfl, hb⟩; refine ⟨_, rfl, ?_⟩; have n0_ := Aside0.mk (below_step (by repeat (first | (with_reducible first | exact HB.out | apply below_alloc | apply pw_below_drewN | apply below_drew1) | exact HB.out)) hb); clear HB; have HB := n0_; clear n0_; (try clear hb); (try clear hb2); (try clear hk); (try clear hi)))
        go_ret
        exact ⟨by first | rfl | (simp [errW_none, errW_some] <;> rfl) | (simp [*, errW_none, errW_some] <;> rfl), by repeat (first | (with_reducible first | exact HB.out | apply below_alloc | apply pw_below_drewN | apply below_drew1) | exact HB.out)⟩
      · replace c10 := Bool.eq_false_iff.mpr c10
        subst c10
        have H1 : ((zoneinforef01_Width.f a1).bind fun t196 => ((bigendian_Append.f kj4 l0 t196 a2).bind fun t197 => (if (t197.length : Int) = (wrap64 ((l0.length : Int) + t196)) then (if 0 ≤ (l0.length : Int) then (if (l0.length : Int) ≤ (t197.length : Int) then ((zoneinforef01_Same.f kj4 (t197.take ((l0.length : Int) : Int).toNat) l0).bind fun t204 => (zoneinfolaw01_BigendianRoundTrip.j1 kj4 l0 a2 a3 t196 t197 (!t204))) else (none)) else (none)) else (zoneinfolaw01_BigendianRoundTrip.j1 kj4 l0 a2 a3 t196 t197 true)))) = some r := by rw [if_neg (show ¬ (false = true) by decide)] at H; exact H
        clear H
        have H := H1
        clear H1
        replace H := Option.bind_eq_some_iff.mp H
        obtain ⟨t196, A130, H⟩ := H
        replace H : ((bigendian_Append.f kj4 l0 t196 a2).bind fun t197 => (if (t197.length : Int) = (wrap64 ((l0.length : Int) + t196)) then (if 0 ≤ (l0.length : Int) then (if (l0.length : Int) ≤ (t197.length : Int) then ((zoneinforef01_Same.f kj4 (t197.take ((l0.length : Int) : Int).toNat) l0).bind fun t204 => (zoneinfolaw01_BigendianRoundTrip.j1 kj4 l0 a2 a3 t196 t197 (!t204))) else (none)) else (none)) else (zoneinfolaw01_BigendianRoundTrip.j1 kj4 l0 a2 a3 t196 t197 true))) = some r := H
        have A13 := Aside0.mk A130
        clear A130
        replace H := Option.bind_eq_some_iff.mp H
        obtain ⟨t197, A140, H⟩ := H
        replace H : (if (t197.length : Int) = (wrap64 ((l0.length : Int) + t196)) then (if 0 ≤ (l0.length : Int) then (if (l0.length : Int) ≤ (t197.length : Int) then ((zoneinforef01_Same.f kj4 (t197.take ((l0.length : Int) : Int).toNat) l0).bind fun t204 => (zoneinfolaw01_BigendianRoundTrip.j1 kj4 l0 a2 a3 t196 t197 (!t204))) else (none)) else (none)) else (zoneinfolaw01_BigendianRoundTrip.j1 kj4 l0 a2 a3 t196 t197 true)) = some r := H
        have A14 := Aside0.mk A140
        clear A140
        have HC15 := Aside0.mk H
        clear H
        go_upto_region 5 with (first | ((with_reducible refine gate_callee (f := 9) rfl ?_); refine goesL_ (some 26) rfl rfl Try.func9 (by kernel_rfl) rfl #[.int .u8 a1] rfl (by (try simp only [List.map_toArray, List.map_cons, List.map_nil]); first | done | rfl | (simp only [List.length_drop, List.length_take]; rfl)) ?_; (with_reducible refine (zoneinforef01_Width.calls a1 t196 _ A13.out).mono ?_); rintro e w16 ⟨rfl, hb⟩; refine ⟨_, rfl, ?_⟩; have n0_ := Aside0.mk (below_step (by repeat (first | (with_reducible first | exact HB.out | apply below_alloc | apply pw_below_drewN | apply below_drew1) | exact HB.out)) hb); clear HB; have HB := n0_; clear n0_; (try clear hb); (try clear hb2); (try clear hk); (try clear hi)) | ((with_reducible refine gate_callee (f := 15) rfl ?_); refine goesL_ (some 30) rfl rfl Try.func15 (by kernel_rfl) rfl #[.slice A0 l0.length c0, .int .i64 t196, .int .u64 a2] rfl (by (try simp only [List.map_toArray, List.map_cons, List.map_nil]); first | done | rfl | (simp only [List.length_drop, List.length_take]; rfl)) ?_; (with_reducible refine (bigendian_Append.calls kj4 _ _ l0 t196 a2 t197 _ ?side1 ?side2 A14.out).mono ?_); (case side1 => repeat (first | exact (Kd.C_below HR0.out HB.out) | (with_reducible refine Kd.C_alloc ?_ _) | (with_reducible refine Kd.C_drewN ?_ _) | (with_reducible refine Kd.C_drew ?_))); (case side2 => exact HC0.out); rintro e w17 ⟨v198, rfl, ho0, hb⟩; refine ⟨_, rfl, ?_⟩; have n0_ := Aside0.mk (Kd.R_lower ho0 (below_size (by repeat (first | (with_reducible first | exact HB.out | apply below_alloc | apply pw_below_drewN | apply below_drew1) | exact HB.out)))); have n1_ := Aside0.mk (below_step (by repeat (first | (with_reducible first | exact HB.out | apply below_alloc | apply pw_below_drewN | apply below_drew1) | exact HB.out)) hb); clear HB; have HO199 := n0_; have HB := n1_; clear n0_ n1_; (try clear hb); (try clear hb2); (try clear hk); (try clear hi); (try clear ho0)))
        (try simp only [Act.put, List.setIfInBounds_toArray, List.set_cons_zero, List.set_cons_succ])
        go_cut [46] (fun v46 wc => ∃ (kq : Nat) (x46_14 : Bool), v46 = .bool x46_14 ∧ Aside0 (zoneinfolaw01_BigendianRoundTrip.j1 kq l0 a2 a3 t196 t197 x46_14 = some r) ∧ Aside0 (kq ≤ kj4) ∧ Aside0 (Kd.R (Kd.int .u8) 5 wc w.heap.size (fun _ => True) v198 t197) ∧ Aside0 (Below w.heap.size w wc))
        case first =>
          have H := HC15.out
          clear HC15
          by_cases c18 : (t197.length : Int) = (wrap64 ((l0.length : Int) + t196))
          · rw [if_pos c18] at H
            have c18b0 : ((t197.length : Int) == (wrap64 ((l0.length : Int) + t196))) = true := beq_iff_eq.mpr c18
            have c18b1 : ((t197.length : Int) != (wrap64 ((l0.length : Int) + t196))) = false := bne_eq_false_iff_eq.mpr c18
            clear c18
            (first | rw [c18b0] | (simp only [i64_w, i32_w]; rw [c18b0]) | skip)
            by_cases c19 : 0 ≤ (l0.length : Int)
            · rw [if_pos c19] at H
              have c19b0 := eq_true c19
              have c19b1 : decide (0 ≤ (l0.length : Int)) = true := decide_eq_true c19
              clear c19
              by_cases c20 : (l0.length : Int) ≤ (t197.length : Int)
              · rw [if_pos c20] at H
                have c20b0 := eq_true c20
                have c20b1 : decide ((l0.length : Int) ≤ (t197.length : Int)) = true := decide_eq_true c20
                clear c20
                obtain ⟨y200, hy200⟩ : ∃ y_ : List Int, y_ = (t197.take ((l0.length : Int) : Int).toNat) := ⟨_, rfl⟩
                replace H : ((zoneinforef01_Same.f kj4 y200 l0).bind fun t204 => (zoneinfolaw01_BigendianRoundTrip.j1 kj4 l0 a2 a3 t196 t197 (!t204))) = some r := by first | (rw [hy200]; with_reducible exact H) | (have H2_ := (Option.bind_some _ _).symm.trans H; rw [hy200]; with_reducible exact H2_) | (have H2_ := (Option.bind_some _ _).symm.trans H; with_reducible exact H2_) | with_reducible exact H | (rw [hy200]; exact H) | exact H
                have Ny200 := Aside0.mk hy200
                clear hy200
                replace H := Option.bind_eq_some_iff.mp H
                obtain ⟨t204, A210, H⟩ := H
                replace H : (zoneinfolaw01_BigendianRoundTrip.j1 kj4 l0 a2 a3 t196 t197 (!t204)) = some r := H
                have A21 := Aside0.mk A210
                clear A210
                have H' := Aside0.mk H
                clear H
                obtain ⟨Ao22, co22, eo22⟩ := Kd.R_slice HO199.out
                subst eo22
                have q23 : ((l0.length : Int) : Int) ≤ ((t197.length : Int) : Int) := of_decide_eq_true (by first | (with_reducible assumption) | assumption)
                obtain ⟨i023, hi023, _, hsz23, _⟩ := info_parts info5
                have hroom23 : t197.length ≤ co22 := (Kd.R_reads' HO199.out).2.1
                have hC23 : Kd.C (Kd.int .u8) _ Ao22 t197.length t197 := (Kd.R_reads' HO199.out).2.2
                have hcut23 := cut_to (P := Try.prog) 22 5 .i64 Try.underlying22 hi023 Ao22 t197.length co22 (l0.length : Int) (of_decide_eq_true (by first | (with_reducible assumption) | assumption)) q23 hroom23
                have hr23 := Kd.C_take (m := ((l0.length : Int) : Int).toNat) hC23 (by omega)
                have hy23 : y200.length = ((l0.length : Int) : Int).toNat := (by rw [Ny200.out, List.length_take]; omega)
                rw [← Ny200.out] at hr23
                rw [← hy23] at hcut23
                have HR203 := Aside0.mk hr23
                have HC203 := Aside0.mk (show y200.length ≤ co22 from by omega)
                clear hr23 hC23 hroom23 hi023 hsz23
                have KY23 := Aside0.mk hy23
                clear hy23
                have KL23 := Aside0.mk (show ((l0.length : Int) : Int).toNat ≤ t197.length from by omega)
                replace q23 := eq_true q23
                go_wp2_with (first | (go_at_call 14; (with_reducible refine (zoneinforef01_Same.calls kj4 _ _ y200 _ _ l0 t204 _ ?side1 ?side2 ?side3 ?side4 A21.out).mono ?_); (case side1 => repeat (first | exact (by repeat (first | (with_reducible exact HR203.out) | (with_reducible refine Kd.C_alloc ?_ _) | (with_reducible refine Kd.C_drewN ?_ _) | (with_reducible refine Kd.C_drew ?_) | exact HR203.out)) | (with_reducible refine Kd.C_alloc ?_ _) | (with_reducible refine Kd.C_drewN ?_ _) | (with_reducible refine Kd.C_drew ?_))); (case side2 => exact HC203.out); (case side3 => repeat (first | exact (Kd.C_below HR0.out HB.out) | (with_reducible refine Kd.C_alloc ?_ _) | (with_reducible refine Kd.C_drewN ?_ _) | (with_reducible refine Kd.C_drew ?_))); (case side4 => exact HC0.out); rintro e w' ⟨rfl, ⟨nd, rfl⟩⟩))
                go_meet
                case rel => exact ⟨_, (!t204), (by first | rfl | (simp; done) | (simp [*]; done)), H', ⟨by have := HJ4.out; first | omega | exact Nat.le_refl _⟩, ⟨by (with_reducible repeat (first | apply Kd.R_alloc | apply Kd.R_drewN | apply Kd.R_drew)); exact HO199.out⟩, ⟨by repeat (first | (with_reducible first | exact HB.out | apply below_alloc | apply pw_below_drewN | apply below_drew1) | exact HB.out)⟩⟩
              · rw [if_neg c20] at H
                exact absurd H (by simp)
            · rw [if_neg c19] at H
              exact absurd H (by simp)
          · rw [if_neg c18] at H
            have c18b0 : ((t197.length : Int) == (wrap64 ((l0.length : Int) + t196))) = false := beq_eq_false_iff_ne.mpr c18
            have c18b1 : ((t197.length : Int) != (wrap64 ((l0.length : Int) + t196))) = true := bne_iff_ne.mpr c18
            (first | rw [c18b0] | (simp only [i64_w, i32_w]; rw [c18b0]) | skip)
            have H' := Aside0.mk H
            clear H
            obtain ⟨Ao24, co24, eo24⟩ := Kd.R_slice HO199.out
            subst eo24
            go_wp2
            go_meet
            case rel => exact ⟨_, (true), (by first | rfl | (simp; done) | (simp [*]; done)), H', ⟨by have := HJ4.out; first | omega | exact Nat.le_refl _⟩, ⟨by (with_reducible repeat (first | apply Kd.R_alloc | apply Kd.R_drewN | apply Kd.R_drew)); exact HO199.out⟩, ⟨by repeat (first | (with_reducible first | exact HB.out | apply below_alloc | apply pw_below_drewN | apply below_drew1) | exact HB.out)⟩⟩
        case rest =>
          clear HC15
          try clear c1
          try clear c2
          try clear p2
          try clear q2
          try clear c4
          try clear p6
          try clear c7
          try clear c8
          try clear c9
          try clear c10
          try clear c15
          try clear c18
          try clear c18b0
          try clear c18b1
          try clear c19
          try clear c19b0
          try clear c19b1
          try clear c20
          try clear c20b0
          try clear c20b1
          try clear q23
          try clear p2
          try clear q23
          obtain ⟨kq, x46_14, rfl, HA, HJ14, HO_10, HB⟩ := hcut
          cases kq with
          | zero => exact absurd HA.out (by simp [zoneinfolaw01_BigendianRoundTrip.j1])
          | succ kj14 =>
            have H := HA.out
            clear HA
            simp only [zoneinfolaw01_BigendianRoundTrip.j1] at H
            by_cases c25 : x46_14 = true
            · subst c25
              have H1 : (some false) = some r := by rw [if_pos rfl] at H; exact H
              clear H
              have H := H1
              clear H1
              obtain rfl := Option.some.inj H
              go_wp2
              go_ret
              exact ⟨by first | rfl | (simp [errW_none, errW_some] <;> rfl) | (simp [*, errW_none, errW_some] <;> rfl), by repeat (first | (with_reducible first | exact HB.out | apply below_alloc | apply pw_below_drewN | apply below_drew1) | exact HB.out)⟩
            · replace c25 := Bool.eq_false_iff.mpr c25
              subst c25
              have H1 : ((bigendian_Uint.f kj14 t197 (l0.length : Int) t196).bind fun bt205 => (if t196 < 8 then (if 0 ≤ (IntKind.u64.wrap (8 * (IntKind.u64.wrap (t196)))) then (if (shl .u64 1 (IntKind.u64.wrap (8 * (IntKind.u64.wrap (t196))))) = 0 then (none) else (zoneinfolaw01_BigendianRoundTrip.j2 kj14 l0 a3 t196 bt205.1 bt205.2 (Int.tmod a2 (shl .u64 1 (IntKind.u64.wrap (8 * (IntKind.u64.wrap (t196)))))))) else (none)) else (zoneinfolaw01_BigendianRoundTrip.j2 kj14 l0 a3 t196 bt205.1 bt205.2 a2))) = some r := by rw [if_neg (show ¬ (false = true) by decide)] at H; exact H
              clear H
              have H := H1
              clear H1
              replace H := Option.bind_eq_some_iff.mp H
              obtain ⟨⟨t205, t206⟩, A260, H⟩ := H
              replace H : (if t196 < 8 then (if 0 ≤ (IntKind.u64.wrap (8 * (IntKind.u64.wrap (t196)))) then (if (shl .u64 1 (IntKind.u64.wrap (8 * (IntKind.u64.wrap (t196))))) = 0 then (none) else (zoneinfolaw01_BigendianRoundTrip.j2 kj14 l0 a3 t196 t205 t206 (Int.tmod a2 (shl .u64 1 (IntKind.u64.wrap (8 * (IntKind.u64.wrap (t196)))))))) else (none)) else (zoneinfolaw01_BigendianRoundTrip.j2 kj14 l0 a3 t196 t205 t206 a2)) = some r := H
              have A26 := Aside0.mk A260
              clear A260
              have HC27 := Aside0.mk H
              clear H
              obtain ⟨Ao28, co28, eo28⟩ := Kd.R_slice HO_10.out
              subst eo28
              go_upto_if 57 with (first | ((with_reducible refine gate_callee (f := 10) rfl ?_); refine goesL_ (some 52) rfl rfl Try.func10 (by kernel_rfl) rfl #[.slice Ao28 t197.length co28, .int .i64 (l0.length : Int), .int .i64 t196] rfl (by (try simp only [List.map_toArray, List.map_cons, List.map_nil]); first | done | rfl | (simp only [List.length_drop, List.length_take]; rfl)) ?_; (with_reducible refine (bigendian_Uint.calls kj14 _ _ t197 (l0.length : Int) t196 t205 t206 _ ?side1 ?side2 A26.out).mono ?_); (case side1 => repeat (first | exact (Kd.R_reads' HO_10.out).2.2 | (with_reducible refine Kd.C_alloc ?_ _) | (with_reducible refine Kd.C_drewN ?_ _) | (with_reducible refine Kd.C_drew ?_))); (case side2 => exact (Kd.R_reads' HO_10.out).2.1); rintro e w' ⟨rfl, ⟨nd, rfl⟩⟩; refine ⟨_, rfl, ?_⟩))
              (try simp only [Act.put, List.setIfInBounds_toArray, List.set_cons_zero, List.set_cons_succ])
              go_cut [13] (fun v13 wc => ∃ (kq : Nat) (x13_26 : Int), v13 = .int .u64 x13_26 ∧ Aside0 (zoneinfolaw01_BigendianRoundTrip.j2 kq l0 a3 t196 t205 t206 x13_26 = some r) ∧ Aside0 (kq ≤ kj14) ∧ Aside0 (Below w.heap.size w wc))
              case first =>
                have H := HC27.out
                clear HC27
                by_cases c29 : t196 < 8
                · rw [if_pos c29] at H
                  have c29b0 : decide (t196 < 8) = true := decide_eq_true c29
                  clear c29
                  (first | rw [c29b0] | (simp only [i64_w, i32_w]; rw [c29b0]) | skip)
                  obtain ⟨ji30, hji30⟩ : ∃ j_ : Int, (IntKind.u64.wrap (8 * (IntKind.u64.wrap (t196)))) = j_ := ⟨_, rfl⟩
                  replace H : (if 0 ≤ (ji30) then (if (shl .u64 1 (ji30)) = 0 then (none) else (zoneinfolaw01_BigendianRoundTrip.j2 kj14 l0 a3 t196 t205 t206 (Int.tmod a2 (shl .u64 1 (ji30))))) else (none)) = some r := by first | (rw [hji30] at H; exact H) | (simp only [hji30] at H ⊢; exact H)
                  by_cases c31 : 0 ≤ (ji30)
                  · rw [if_pos c31] at H
                    have c31b0 := eq_true c31
                    have c31b1 : decide (0 ≤ (ji30)) = true := decide_eq_true c31
                    clear c31
                    obtain ⟨ji32, hji32⟩ : ∃ j_ : Int, (shl .u64 1 (ji30)) = j_ := ⟨_, rfl⟩
                    replace H : (if (ji32) = 0 then (none) else (zoneinfolaw01_BigendianRoundTrip.j2 kj14 l0 a3 t196 t205 t206 (Int.tmod a2 (ji32)))) = some r := by first | (rw [hji32] at H; exact H) | (simp only [hji32] at H ⊢; exact H)
                    have hji32_ : (IntKind.u64.wrap (1 * 2 ^ min (ji30).toNat 64)) = ji32 := hji32
                    have hji32z : (ji30) ≤ 64 → (IntKind.u64.wrap (1 * 2 ^ (ji30).toNat)) = ji32 := shl_small hji32
                    have hji32u : (IntKind.u64.wrap (2 ^ min (ji30).toNat 64)) = ji32 := by have h_ := hji32_; rw [Int.one_mul] at h_; exact h_
                    have hji32v : (ji30) ≤ 64 → (IntKind.u64.wrap (2 ^ (ji30).toNat)) = ji32 := fun hle_ => by have h_ := hji32z hle_; rw [Int.one_mul] at h_; exact h_
                    by_cases c33 : (ji32) = 0
                    · rw [if_pos c33] at H
                      exact absurd H (by simp)
                    · rw [if_neg c33] at H
                      have c33b0 : ((ji32) == 0) = false := beq_eq_false_iff_ne.mpr c33
                      have c33b1 : ((ji32) != 0) = true := bne_iff_ne.mpr c33
                      have H' := Aside0.mk H
                      clear H
                      go_wp2
                      go_meet
                      case rel => exact ⟨_, (Int.tmod a2 (ji32)), (by first | rfl | (simp; done) | (simp only [← hji32] <;> (first | rfl | simp)) | (simp [*]; done)), H', ⟨by have := HJ4.out; have := HJ14.out; first | omega | exact Nat.le_refl _⟩, ⟨by repeat (first | (with_reducible first | exact HB.out | apply below_alloc | apply pw_below_drewN | apply below_drew1) | exact HB.out)⟩⟩
                  · rw [if_neg c31] at H
                    exact absurd H (by simp)
                · rw [if_neg c29] at H
                  have c29b0 : decide (t196 < 8) = false := decide_eq_false c29
                  clear c29
                  (first | rw [c29b0] | (simp only [i64_w, i32_w]; rw [c29b0]) | skip)
                  have H' := Aside0.mk H
                  clear H
                  go_wp2
                  go_meet
                  case rel => exact ⟨_, (a2), (by first | rfl | (simp; done) | (simp [*]; done)), H', ⟨by have := HJ4.out; have := HJ14.out; first | omega | exact Nat.le_refl _⟩, ⟨by repeat (first | (with_reducible first | exact HB.out | apply below_alloc | apply pw_below_drewN | apply below_drew1) | exact HB.out)⟩⟩
              case rest =>
                clear HC27
                try clear c1
                try clear c2
                try clear p2
                try clear q2
                try clear c3
                try clear c4
                try clear p6
                try clear c7
                try clear c8
                try clear c9
                try clear c10
                try clear c15
                try clear c18
                try clear c18b0
                try clear c18b1
                try clear c19
                try clear c19b0
                try clear c19b1
                try clear c20
                try clear c20b0
                try clear c20b1
                try clear q23
                try clear c25
                try clear c29
                try clear c29b0
                try clear c31
                try clear c31b0
                try clear c31b1
                try clear c33
                try clear c33b0
                try clear c33b1
                try clear p2
                try clear p6
                try clear q2
                try clear q23
                obtain ⟨kq, x13_26, rfl, HA, HJ26, HB⟩ := hcut
                cases kq with
                | zero => exact absurd HA.out (by simp [zoneinfolaw01_BigendianRoundTrip.j2])
                | succ kj26 =>
                  have H := HA.out
                  clear HA
                  simp only [zoneinfolaw01_BigendianRoundTrip.j2] at H
                  replace H := Option.bind_eq_some_iff.mp H
                  obtain ⟨t207, A340, H⟩ := H
                  replace H : ((bigendian_Int.f kj26 t207 (l0.length : Int) t196).bind fun bt210 => (if t206 = true then (if t205 = x13_26 then (if bt210.2 = true then ((bigendian_Fits.f a3 t196).bind fun t212 => (if ((bt210.1 == a3) == t212) = true then ((bigendian_Fits.f bt210.1 t196).bind fun t213 => (some t213)) else (some false))) else (some false)) else (some false)) else (some false))) = some r := H
                  have A34 := Aside0.mk A340
                  clear A340
                  replace H := Option.bind_eq_some_iff.mp H
                  obtain ⟨⟨t210, t211⟩, A350, H⟩ := H
                  replace H : (if t206 = true then (if t205 = x13_26 then (if t211 = true then ((bigendian_Fits.f a3 t196).bind fun t212 => (if ((t210 == a3) == t212) = true then ((bigendian_Fits.f t210 t196).bind fun t213 => (some t213)) else (some false))) else (some false)) else (some false)) else (some false)) = some r := H
                  have A35 := Aside0.mk A350
                  clear A350
                  by_cases c36 : t206 = true
                  · subst c36
                    have H1 : (if t205 = x13_26 then (if t211 = true then ((bigendian_Fits.f a3 t196).bind fun t212 => (if ((t210 == a3) == t212) = true then ((bigendian_Fits.f t210 t196).bind fun t213 => (some t213)) else (some false))) else (some false)) else (some false)) = some r := by rw [if_pos rfl] at H; exact H
                    clear H
                    have H := H1
                    clear H1
                    by_cases c37 : t205 = x13_26
                    · rw [if_pos c37] at H
                      have c37b0 : (t205 == x13_26) = true := beq_iff_eq.mpr c37
                      have c37b1 : (t205 != x13_26) = false := bne_eq_false_iff_eq.mpr c37
                      clear c37
                      by_cases c38 : t211 = true
                      · subst c38
                        have H1 : ((bigendian_Fits.f a3 t196).bind fun t212 => (if ((t210 == a3) == t212) = true then ((bigendian_Fits.f t210 t196).bind fun t213 => (some t213)) else (some false))) = some r := by rw [if_pos rfl] at H; exact H
                        clear H
                        have H := H1
                        clear H1
                        replace H := Option.bind_eq_some_iff.mp H
                        obtain ⟨t212, A390, H⟩ := H
                        replace H : (if ((t210 == a3) == t212) = true then ((bigendian_Fits.f t210 t196).bind fun t213 => (some t213)) else (some false)) = some r := H
                        have A39 := Aside0.mk A390
                        clear A390
                        by_cases c40 : ((t210 == a3) == t212) = true
                        · rw [if_pos c40] at H
                          have c40b0 : ((t210 == a3) == t212) = true := c40
                          (try (have c40b1 : decide ((t210 == a3) = t212) = true := by simpa using c40))
                          (try (have c40b2 : ((t210 == a3) == t212) = true := by simpa using c40))
                          clear c40
                          replace H := Option.bind_eq_some_iff.mp H
                          obtain ⟨t213, A410, H⟩ := H
                          replace H : (some t213) = some r := H
                          have A41 := Aside0.mk A410
                          clear A410
                          obtain rfl := Option.some.inj H
                          go_wp2_with (first | ((with_reducible refine gate_callee (f := 15) rfl ?_); refine goesL_ (some 68) rfl rfl Try.func15 (by kernel_rfl) rfl #[.slice A0 l0.length c0, .int .i64 t196, .int .u64 (IntKind.u64.wrap (a3))] rfl (by (try simp only [List.map_toArray, List.map_cons, List.map_nil]); first | done | rfl | (simp only [List.length_drop, List.length_take]; rfl)) ?_; (with_reducible refine (bigendian_Append.calls kj26 _ _ l0 t196 (IntKind.u64.wrap (a3)) t207 _ ?side1 ?side2 A34.out).mono ?_); (case side1 => repeat (first | exact (Kd.C_below HR0.out HB.out) | (with_reducible refine Kd.C_alloc ?_ _) | (with_reducible refine Kd.C_drewN ?_ _) | (with_reducible refine Kd.C_drew ?_))); (case side2 => exact HC0.out); rintro e w42 ⟨v208, rfl, ho0, hb⟩; refine ⟨_, rfl, ?_⟩; have n0_ := Aside0.mk (Kd.R_lower ho0 (below_size (by repeat (first | (with_reducible first | exact HB.out | apply below_alloc | apply pw_below_drewN | apply below_drew1) | exact HB.out)))); have n1_ := Aside0.mk (below_step (by repeat (first | (with_reducible first | exact HB.out | apply below_alloc | apply pw_below_drewN | apply below_drew1) | exact HB.out)) hb); clear HB; have HO209 := n0_; have HB := n1_; clear n0_ n1_; (try clear hb); (try clear hb2); (try clear hk); (try clear hi); (try clear ho0); obtain ⟨Ao43, co43, eo43⟩ := Kd.R_slice HO209.out; subst eo43) | ((with_reducible refine gate_callee (f := 12) rfl ?_); refine goesL_ (some 74) rfl rfl Try.func12 (by kernel_rfl) rfl #[.slice Ao43 t207.length co43, .int .i64 (l0.length : Int), .int .i64 t196] rfl (by (try simp only [List.map_toArray, List.map_cons, List.map_nil]); first | done | rfl | (simp only [List.length_drop, List.length_take]; rfl)) ?_; (with_reducible refine (bigendian_Int.calls kj26 _ _ t207 (l0.length : Int) t196 t210 true _ ?side1 ?side2 A35.out).mono ?_); (case side1 => repeat (first | exact (Kd.R_reads' HO209.out).2.2 | (with_reducible refine Kd.C_alloc ?_ _) | (with_reducible refine Kd.C_drewN ?_ _) | (with_reducible refine Kd.C_drew ?_))); (case side2 => exact (Kd.R_reads' HO209.out).2.1); rintro e w' ⟨rfl, ⟨nd, rfl⟩⟩; refine ⟨_, rfl, ?_⟩) | (go_at_call 17; (with_reducible refine (bigendian_Fits.calls a3 t196 t212 _ A39.out).mono ?_); rintro e w' ⟨rfl, ⟨nd, rfl⟩⟩) | (go_at_call 17; (with_reducible refine (bigendian_Fits.calls t210 t196 t213 _ A41.out).mono ?_); rintro e w' ⟨rfl, ⟨nd, rfl⟩⟩))
                          go_ret
                          exact ⟨by first | rfl | (simp [errW_none, errW_some] <;> rfl) | (simp [*, errW_none, errW_some] <;> rfl), by repeat (first | (with_reducible first | exact HB.out | apply below_alloc | apply pw_below_drewN | apply below_drew1) | exact HB.out)⟩
                        · rw [if_neg c40] at H
                          have c40b0 : ((t210 == a3) == t212) = false := by simpa using c40
                          (try (have c40b1 : decide ((t210 == a3) = t212) = false := by simpa using c40))
                          (try (have c40b2 : ((t210 == a3) == t212) = false := by simpa using c40))
                          (try (have c40b3 : ¬ ((t210 == a3) = t212) := by simpa using c40))
                          clear c40
                          obtain rfl := Option.some.inj H
                          go_wp2_with (first | ((with_reducible refine gate_callee (f := 15) rfl ?_); refine goesL_ (some 68) rfl rfl Try.func15 (by kernel_rfl) rfl #[.slice A0 l0.length c0, .int .i64 t196, .int .u64 (IntKind.u64.wrap (a3))] rfl (by (try simp only [List.map_toArray, List.map_cons, List.map_nil]); first | done | rfl | (simp only [List.length_drop, List.length_take]; rfl)) ?_; (with_reducible refine (bigendian_Append.calls kj26 _ _ l0 t196 (IntKind.u64.wrap (a3)) t207 _ ?side1 ?side2 A34.out).mono ?_); (case side1 => repeat (first | exact (Kd.C_below HR0.out HB.out) | (with_reducible refine Kd.C_alloc ?_ _) | (with_reducible refine Kd.C_drewN ?_ _) | (with_reducible refine Kd.C_drew ?_))); (case side2 => exact HC0.out); rintro e w44 ⟨v208, rfl, ho0, hb⟩; refine ⟨_, rfl, ?_⟩; have n0_ := Aside0.mk (Kd.R_lower ho0 (below_size (by repeat (first | (with_reducible first | exact HB.out | apply below_alloc | apply pw_below_drewN | apply below_drew1) | exact HB.out)))); have n1_ := Aside0.mk (below_step (by repeat (first | (with_reducible first | exact HB.out | apply below_alloc | apply pw_below_drewN | apply below_drew1) | exact HB.out)) hb); clear HB; have HO209 := n0_; have HB := n1_; clear n0_ n1_; (try clear hb); (try clear hb2); (try clear hk); (try clear hi); (try clear ho0); obtain ⟨Ao45, co45, eo45⟩ := Kd.R_slice HO209.out; subst eo45) | ((with_reducible refine gate_callee (f := 12) rfl ?_); refine goesL_ (some 74) rfl rfl Try.func12 (by kernel_rfl) rfl #[.slice Ao45 t207.length co45, .int .i64 (l0.length : Int), .int .i64 t196] rfl (by (try simp only [List.map_toArray, List.map_cons, List.map_nil]); first | done | rfl | (simp only [List.length_drop, List.length_take]; rfl)) ?_; (with_reducible refine (bigendian_Int.calls kj26 _ _ t207 (l0.length : Int) t196 t210 true _ ?side1 ?side2 A35.out).mono ?_); (case side1 => repeat (first | exact (Kd.R_reads' HO209.out).2.2 | (with_reducible refine Kd.C_alloc ?_ _) | (with_reducible refine Kd.C_drewN ?_ _) | (with_reducible refine Kd.C_drew ?_))); (case side2 => exact (Kd.R_reads' HO209.out).2.1); rintro e w' ⟨rfl, ⟨nd, rfl⟩⟩; refine ⟨_, rfl, ?_⟩) | (go_at_call 17; (with_reducible refine (bigendian_Fits.calls a3 t196 t212 _ A39.out).mono ?_); rintro e w' ⟨rfl, ⟨nd, rfl⟩⟩))
                          go_ret
                          exact ⟨by first | rfl | (simp [errW_none, errW_some] <;> rfl) | (simp [*, errW_none, errW_some] <;> rfl), by repeat (first | (with_reducible first | exact HB.out | apply below_alloc | apply pw_below_drewN | apply below_drew1) | exact HB.out)⟩
                      · replace c38 := Bool.eq_false_iff.mpr c38
                        subst c38
                        have H1 : (some false) = some r := by rw [if_neg (show ¬ (false = true) by decide)] at H; exact H
                        clear H
                        have H := H1
                        clear H1
                        obtain rfl := Option.some.inj H
                        go_wp2_with (first | ((with_reducible refine gate_callee (f := 15) rfl ?_); refine goesL_ (some 68) rfl rfl Try.func15 (by kernel_rfl) rfl #[.slice A0 l0.length c0, .int .i64 t196, .int .u64 (IntKind.u64.wrap (a3))] rfl (by (try simp only [List.map_toArray, List.map_cons, List.map_nil]); first | done | rfl | (simp only [List.length_drop, List.length_take]; rfl)) ?_; (with_reducible refine (bigendian_Append.calls kj26 _ _ l0 t196 (IntKind.u64.wrap (a3)) t207 _ ?side1 ?side2 A34.out).mono ?_); (case side1 => repeat (first | exact (Kd.C_below HR0.out HB.out) | (with_reducible refine Kd.C_alloc ?_ _) | (with_reducible refine Kd.C_drewN ?_ _) | (with_reducible refine Kd.C_drew ?_))); (case side2 => exact HC0.out); rintro e w46 ⟨v208, rfl, ho0, hb⟩; refine ⟨_, rfl, ?_⟩; have n0_ := Aside0.mk (Kd.R_lower ho0 (below_size (by repeat (first | (with_reducible first | exact HB.out | apply below_alloc | apply pw_below_drewN | apply below_drew1) | exact HB.out)))); have n1_ := Aside0.mk (below_step (by repeat (first | (with_reducible first | exact HB.out | apply below_alloc | apply pw_below_drewN | apply below_drew1) | exact HB.out)) hb); clear HB; have HO209 := n0_; have HB := n1_; clear n0_ n1_; (try clear hb); (try clear hb2); (try clear hk); (try clear hi); (try clear ho0); obtain ⟨Ao47, co47, eo47⟩ := Kd.R_slice HO209.out; subst eo47) | ((with_reducible refine gate_callee (f := 12) rfl ?_); refine goesL_ (some 74) rfl rfl Try.func12 (by kernel_rfl) rfl #[.slice Ao47 t207.length co47, .int .i64 (l0.length : Int), .int .i64 t196] rfl (by (try simp only [List.map_toArray, List.map_cons, List.map_nil]); first | done | rfl | (simp only [List.length_drop, List.length_take]; rfl)) ?_; (with_reducible refine (bigendian_Int.calls kj26 _ _ t207 (l0.length : Int) t196 t210 false _ ?side1 ?side2 A35.out).mono ?_); (case side1 => repeat (first | exact (Kd.R_reads' HO209.out).2.2 | (with_reducible refine Kd.C_alloc ?_ _) | (with_reducible refine Kd.C_drewN ?_ _) | (with_reducible refine Kd.C_drew ?_))); (case side2 => exact (Kd.R_reads' HO209.out).2.1); rintro e w' ⟨rfl, ⟨nd, rfl⟩⟩; refine ⟨_, rfl, ?_⟩))
                        go_ret
                        exact ⟨by first | rfl | (simp [errW_none, errW_some] <;> rfl) | (simp [*, errW_none, errW_some] <;> rfl), by repeat (first | (with_reducible first | exact HB.out | apply below_alloc | apply pw_below_drewN | apply below_drew1) | exact HB.out)⟩
                    · rw [if_neg c37] at H
                      have c37b0 : (t205 == x13_26) = false := beq_eq_false_iff_ne.mpr c37
                      have c37b1 : (t205 != x13_26) = true := bne_iff_ne.mpr c37
                      obtain rfl := Option.some.inj H
                      go_wp2_with (first | ((with_reducible refine gate_callee (f := 15) rfl ?_); refine goesL_ (some 68) rfl rfl Try.func15 (by kernel_rfl) rfl #[.slice A0 l0.length c0, .int .i64 t196, .int .u64 (IntKind.u64.wrap (a3))] rfl (by (try simp only [List.map_toArray, List.map_cons, List.map_nil]); first | done | rfl | (simp only [List.length_drop, List.length_take]; rfl)) ?_; (with_reducible refine (bigendian_Append.calls kj26 _ _ l0 t196 (IntKind.u64.wrap (a3)) t207 _ ?side1 ?side2 A34.out).mono ?_); (case side1 => repeat (first | exact (Kd.C_below HR0.out HB.out) | (with_reducible refine Kd.C_alloc ?_ _) | (with_reducible refine Kd.C_drewN ?_ _) | (with_reducible refine Kd.C_drew ?_))); (case side2 => exact HC0.out); rintro e w48 ⟨v208, rfl, ho0, hb⟩; refine ⟨_, rfl, ?_⟩; have n0_ := Aside0.mk (Kd.R_lower ho0 (below_size (by repeat (first | (with_reducible first | exact HB.out | apply below_alloc | apply pw_below_drewN | apply below_drew1) | exact HB.out)))); have n1_ := Aside0.mk (below_step (by repeat (first | (with_reducible first | exact HB.out | apply below_alloc | apply pw_below_drewN | apply below_drew1) | exact HB.out)) hb); clear HB; have HO209 := n0_; have HB := n1_; clear n0_ n1_; (try clear hb); (try clear hb2); (try clear hk); (try clear hi); (try clear ho0); obtain ⟨Ao49, co49, eo49⟩ := Kd.R_slice HO209.out; subst eo49) | ((with_reducible refine gate_callee (f := 12) rfl ?_); refine goesL_ (some 74) rfl rfl Try.func12 (by kernel_rfl) rfl #[.slice Ao49 t207.length co49, .int .i64 (l0.length : Int), .int .i64 t196] rfl (by (try simp only [List.map_toArray, List.map_cons, List.map_nil]); first | done | rfl | (simp only [List.length_drop, List.length_take]; rfl)) ?_; (with_reducible refine (bigendian_Int.calls kj26 _ _ t207 (l0.length : Int) t196 t210 t211 _ ?side1 ?side2 A35.out).mono ?_); (case side1 => repeat (first | exact (Kd.R_reads' HO209.out).2.2 | (with_reducible refine Kd.C_alloc ?_ _) | (with_reducible refine Kd.C_drewN ?_ _) | (with_reducible refine Kd.C_drew ?_))); (case side2 => exact (Kd.R_reads' HO209.out).2.1); rintro e w' ⟨rfl, ⟨nd, rfl⟩⟩; refine ⟨_, rfl, ?_⟩))
                      go_ret
                      exact ⟨by first | rfl | (simp [errW_none, errW_some] <;> rfl) | (simp [*, errW_none, errW_some] <;> rfl), by repeat (first | (with_reducible first | exact HB.out | apply below_alloc | apply pw_below_drewN | apply below_drew1) | exact HB.out)⟩
                  · replace c36 := Bool.eq_false_iff.mpr c36
                    subst c36
                    have H1 : (some false) = some r := by rw [if_neg (show ¬ (false = true) by decide)] at H; exact H
                    clear H
                    have H := H1
                    clear H1
                    obtain rfl := Option.some.inj H
                    go_wp2_with (first | ((with_reducible refine gate_callee (f := 15) rfl ?_); refine goesL_ (some 68) rfl rfl Try.func15 (by kernel_rfl) rfl #[.slice A0 l0.length c0, .int .i64 t196, .int .u64 (IntKind.u64.wrap (a3))] rfl (by (try simp only [List.map_toArray, List.map_cons, List.map_nil]); first | done | rfl | (simp only [List.length_drop, List.length_take]; rfl)) ?_; (with_reducible refine (bigendian_Append.calls kj26 _ _ l0 t196 (IntKind.u64.wrap (a3)) t207 _ ?side1 ?side2 A34.out).mono ?_); (case side1 => repeat (first | exact (Kd.C_below HR0.out HB.out) | (with_reducible refine Kd.C_alloc ?_ _) | (with_reducible refine Kd.C_drewN ?_ _) | (with_reducible refine Kd.C_drew ?_))); (case side2 => exact HC0.out); rintro e w50 ⟨v208, rfl, ho0, hb⟩; refine ⟨_, rfl, ?_⟩; have n0_ := Aside0.mk (Kd.R_lower ho0 (below_size (by repeat (first | (with_reducible first | exact HB.out | apply below_alloc | apply pw_below_drewN | apply below_drew1) | exact HB.out)))); have n1_ := Aside0.mk (below_step (by repeat (first | (with_reducible first | exact HB.out | apply below_alloc | apply pw_below_drewN | apply below_drew1) | exact HB.out)) hb); clear HB; have HO209 := n0_; have HB := n1_; clear n0_ n1_; (try clear hb); (try clear hb2); (try clear hk); (try clear hi); (try clear ho0); obtain ⟨Ao51, co51, eo51⟩ := Kd.R_slice HO209.out; subst eo51) | ((with_reducible refine gate_callee (f := 12) rfl ?_); refine goesL_ (some 74) rfl rfl Try.func12 (by kernel_rfl) rfl #[.slice Ao51 t207.length co51, .int .i64 (l0.length : Int), .int .i64 t196] rfl (by (try simp only [List.map_toArray, List.map_cons, List.map_nil]); first | done | rfl | (simp only [List.length_drop, List.length_take]; rfl)) ?_; (with_reducible refine (bigendian_Int.calls kj26 _ _ t207 (l0.length : Int) t196 t210 t211 _ ?side1 ?side2 A35.out).mono ?_); (case side1 => repeat (first | exact (Kd.R_reads' HO209.out).2.2 | (with_reducible refine Kd.C_alloc ?_ _) | (with_reducible refine Kd.C_drewN ?_ _) | (with_reducible refine Kd.C_drew ?_))); (case side2 => exact (Kd.R_reads' HO209.out).2.1); rintro e w' ⟨rfl, ⟨nd, rfl⟩⟩; refine ⟨_, rfl, ?_⟩))
                    go_ret
                    exact ⟨by first | rfl | (simp [errW_none, errW_some] <;> rfl) | (simp [*, errW_none, errW_some] <;> rfl), by repeat (first | (with_reducible first | exact HB.out | apply below_alloc | apply pw_below_drewN | apply below_drew1) | exact HB.out)⟩

/-- THE ONE PURE STATEMENT of zoneinfolaw01_BigendianRoundTrip: yours. -/
def zoneinfolaw01_BigendianRoundTrip.Pure : Prop := ∀ (l0 : List Int) (a1 : Int) (a2 : Int) (a3 : Int), l0.length ≤ maxLen → l0.length * 1 ≤ 140737488351232 → (∀ x ∈ l0, (Lit.int .u8 x).wf = true) → (Lit.int .u8 a1).wf = true → (Lit.int .u64 a2).wf = true → (Lit.int .i64 a3).wf = true → ∃ k, zoneinfolaw01_BigendianRoundTrip.f k l0 a1 a2 a3 = some true
theorem zoneinfolaw01_BigendianRoundTrip.walk (P : zoneinfolaw01_BigendianRoundTrip.Pure) (a0 : Option Addr) (len0 cap0 : Nat) (z0 : List Int) (a1 : Int) (a2 : Int) (a3 : Int) (w : World) (w0 : (a0 = none ∧ len0 = 0 ∧ cap0 = 0 ∧ z0 = []) ∨ ∃ x, a0 = some x ∧ len0 ≤ cap0 ∧ cap0 ≤ maxLen ∧ z0.length = cap0 ∧ (∀ i, i < z0.length → w.cell? (x.add i) = some (.int .u8 (z0.getD i 0))) ∧ ∀ n ∈ z0, (Lit.int .u8 n).wf = true) (y0 : len0 * 1 ≤ 140737488351232) (w1 : (Lit.int .u8 a1).wf = true) (w2 : (Lit.int .u64 a2).wf = true) (w3 : (Lit.int .i64 a3).wf = true) :
    Calls Try.prog 4 #[.slice a0 len0 cap0, .int .u8 a1, .int .u64 a2, .int .i64 a3] w fun e w' => e = .returned (.bool true) ∧ Below w.heap.size w w' := by
  obtain ⟨l0, rfl, hr0, hm0, hw0, hc0⟩ := ReadsInt.ofRowC w0
  obtain ⟨k, h⟩ := P l0 a1 a2 a3 hm0 y0 hw0 w1 w2 w3
  refine (zoneinfolaw01_BigendianRoundTrip.calls k _ _ l0 a1 a2 a3 true w (Kd.C_of_reads (d := (0 : Int)) (h1 := fun _ => rfl) hr0) hc0 h).mono ?_
  rintro e w' ⟨rfl, hd⟩
  exact ⟨rfl, hd⟩

end Go.Proofs.Ytkjladlaicdhpaa.G
