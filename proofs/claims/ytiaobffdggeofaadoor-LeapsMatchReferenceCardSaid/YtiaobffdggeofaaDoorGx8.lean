/- Written by a program of this session for this seat: contracts of the functions that its laws reach, or the row of a law over its plain part. -/
import Derived.Test.YtiaobffdggeofaaDoorGx0
import Derived.Test.YtiaobffdggeofaaDoorGx2
import Derived.Test.YtiaobffdggeofaaDoorGx3
import Derived.Test.YtiaobffdggeofaaDoorGx4
import Derived.Test.YtiaobffdggeofaaDoorGx5
import Derived.Test.YtiaobffdggeofaaDoorGx6
import Derived.Test.YtiaobffdggeofaaDoorGx7
namespace Go.Proofs.YtiaobffdggeofaaDoor.G
open Go.RowKit Go.Proofs.YtiaobffdggeofaaDoorW.PrintWords Go.Proofs.YtiaobffdggeofaaDoorW.PrintLast Go.Proofs.YtiaobffdggeofaaDoorW.PrintMore
attribute [local go_sem] max2_int min2_int max_two min_two max_three min_three max_four min_four   -- for this text's walks alone
set_option linter.unusedVariables false
set_option linter.unusedSimpArgs false

/-! ### zoneinforef17_Correction: function 22 -/
def zoneinforef17_Correction.l0 : Nat → List (S38) → Int → Int → Option (Int)
  | 0, _, _, _ => none
  | k + 1, x0, x1, x5 => if x5 ≥ 0 then (if 0 ≤ x5 then (if x5 < (x0.length : Int) then (if ((rd_T38 x0 x5).f0) ≤ x1 then (some (wrap64 ((rd_T38 x0 x5).f1))) else (zoneinforef17_Correction.l0 k x0 x1 (wrap64 (x5 - 1)))) else (none)) else (none)) else (some 0)
def zoneinforef17_Correction.f (k : Nat) (l0 : List (S38)) (a1 : Int) : Option (Int) := zoneinforef17_Correction.l0 k l0 a1 (wrap64 ((l0.length : Int) - 1))
theorem zoneinforef17_Correction.mono_l : ∀ k, (∀ y0 y1 y2, LeO (zoneinforef17_Correction.l0 k y0 y1 y2) (zoneinforef17_Correction.l0 (k + 1) y0 y1 y2))
  | 0 => fun _ _ _ r h => by simp [zoneinforef17_Correction.l0] at h
  | k + 1 => by
    have ih0 := zoneinforef17_Correction.mono_l k
    · intro y0 y1 y2
      unfold zoneinforef17_Correction.l0
      repeat' first
      | (with_reducible exact ih0 _ _ _)
      | (with_reducible exact LeO.refl _)
      | (with_reducible exact LeO.none _)
      | (with_reducible refine LeO.ite ?_ ?_)
      | (with_reducible refine LeO.bind ?_ (fun _ => ?_))
      | exact ih0 _ _ _
      | exact LeO.none _
      | refine LeO.ite ?_ ?_
      | refine LeO.bind ?_ (fun _ => ?_)
theorem zoneinforef17_Correction.mono : ∀ a0 a1 k, LeO (zoneinforef17_Correction.f k a0 a1) (zoneinforef17_Correction.f (k + 1) a0 a1) := by
  intro a0 a1 k
  have ih0 := zoneinforef17_Correction.mono_l k
  unfold zoneinforef17_Correction.f
  repeat' first
      | (with_reducible exact ih0 _ _ _)
      | (with_reducible exact LeO.refl _)
      | (with_reducible exact LeO.none _)
      | (with_reducible refine LeO.ite ?_ ?_)
      | (with_reducible refine LeO.bind ?_ (fun _ => ?_))
      | exact ih0 _ _ _
      | exact LeO.none _
      | refine LeO.ite ?_ ?_
      | refine LeO.bind ?_ (fun _ => ?_)
set_option maxHeartbeats 8000000 in
set_option maxRecDepth 100000 in
theorem zoneinforef17_Correction.calls (k : Nat) (A0 : Option Addr) (c0 : Nat) (l0 : List (S38)) (a1 : Int) (r : Int) (w : World) (hr0 : Kd.C k38 w A0 l0.length l0) (hc0 : l0.length ≤ c0) (h : zoneinforef17_Correction.f k l0 a1 = some r) :
    Calls Tryd.prog 22 #[.slice A0 l0.length c0, .int .i64 a1] w fun e w' => e = .returned (.int .i64 r) ∧ Drawn0 w w' := by
  have HR0 := Aside0.mk hr0
  have HC0 := Aside0.mk hc0
  clear hr0 hc0
  have H : (zoneinforef17_Correction.l0 k l0 a1 (wrap64 ((l0.length : Int) - 1))) = some r := h
  clear h
  have H' := Aside0.mk H
  clear H
  go_enter Tryd.func22, Tryd.ntmps22
  go_wp2
  go_loopg [5] k (fun kq v5 w' => ∃ (x5_1 : Int), v5 = .int .i64 x5_1 ∧ Aside0 (zoneinforef17_Correction.l0 kq l0 a1 x5_1 = some r) ∧ Aside0 (kq ≤ k) ∧ Drawn0 w w')
  case atStart => exact ⟨(wrap64 ((l0.length : Int) - 1)), (by first | rfl | (simp; done) | (simp [*]; done)), H', ⟨Nat.le_refl _⟩, by repeat (first | exact Drawn0.refl _ | apply Drawn0.step)⟩
  case round =>
    clear H'
    try clear c2
    try clear p2
    obtain ⟨x5_1, rfl, HA, HK1, ⟨m1, rfl⟩⟩ := hrel
    cases gk with
    | zero => exact absurd HA.out (by simp [zoneinforef17_Correction.l0])
    | succ k1 =>
      have H := HA.out
      clear HA
      simp only [zoneinforef17_Correction.l0] at H
      by_cases c3 : x5_1 ≥ 0
      · rw [if_pos c3] at H
        have c3b0 : decide (0 ≤ x5_1) = true := decide_eq_true c3
        clear c3
        by_cases c4 : 0 ≤ x5_1
        · rw [if_pos c4] at H
          have c4b0 : decide (0 ≤ x5_1) = true := decide_eq_true c4
          clear c4
          by_cases c5 : x5_1 < (l0.length : Int)
          · rw [if_pos c5] at H
            have c5b0 : decide (x5_1 < (l0.length : Int)) = true := decide_eq_true c5
            clear c5
            by_cases c6 : ((rd_T38 l0 x5_1).f0) ≤ a1
            · rw [if_pos c6] at H
              have c6b0 : decide (((rd_T38 l0 x5_1).f0) ≤ a1) = true := decide_eq_true c6
              clear c6
              obtain rfl := Option.some.inj H
              have p245 : 0 ≤ (x5_1 : Int) := of_decide_eq_true (by first | (with_reducible assumption) | assumption)
              have q245 : x5_1 < (l0.length : Int) := of_decide_eq_true (by first | (with_reducible assumption) | assumption)
              obtain ⟨ad245, e245, hx245_0, hx245_1⟩ := at_T38 HR0.out x5_1 p245 q245
              cases e245
              replace p245 := eq_true p245
              replace q245 := eq_true q245
              have p246 : 0 ≤ (x5_1 : Int) := of_decide_eq_true (by first | (with_reducible assumption) | assumption)
              have q246 : x5_1 < (l0.length : Int) := of_decide_eq_true (by first | (with_reducible assumption) | assumption)
              obtain ⟨ad246, e246, hx246_0, hx246_1⟩ := at_T38 HR0.out x5_1 p246 q246
              obtain rfl : ad245 = ad246 := (by injection e246)
              replace p246 := eq_true p246
              replace q246 := eq_true q246
              go_wp2
              go_ret
              exact ⟨by first | rfl | (simp; done) | (simp [*]; done), by repeat (first | exact Drawn0.refl _ | apply Drawn0.step)⟩
            · rw [if_neg c6] at H
              have c6b0 : decide (((rd_T38 l0 x5_1).f0) ≤ a1) = false := decide_eq_false c6
              clear c6
              have H' := Aside0.mk H
              clear H
              have p245 : 0 ≤ (x5_1 : Int) := of_decide_eq_true (by first | (with_reducible assumption) | assumption)
              have q245 : x5_1 < (l0.length : Int) := of_decide_eq_true (by first | (with_reducible assumption) | assumption)
              obtain ⟨ad245, e245, hx245_0, hx245_1⟩ := at_T38 HR0.out x5_1 p245 q245
              cases e245
              replace p245 := eq_true p245
              replace q245 := eq_true q245
              go_wp2
              go_roundg k1
              case measure => have := HK1.out; omega
              case rel => exact ⟨(wrap64 (x5_1 - 1)), (by first | rfl | (simp; done) | (simp [*]; done)), H', ⟨by have := HK1.out; omega⟩, by repeat (first | exact Drawn0.refl _ | apply Drawn0.step)⟩
          · rw [if_neg c5] at H
            exact absurd H (by simp)
        · rw [if_neg c4] at H
          exact absurd H (by simp)
      · rw [if_neg c3] at H
        have c3b0 : decide (0 ≤ x5_1) = false := decide_eq_false c3
        clear c3
        obtain rfl := Option.some.inj H
        go_wp2
        go_ret
        exact ⟨by first | rfl | (simp; done) | (simp [*]; done), by repeat (first | exact Drawn0.refl _ | apply Drawn0.step)⟩

/-! ### zoneinfolaw17_LeapsMatchReference: function 3 -/
mutual
def zoneinfolaw17_LeapsMatchReference.j0 : Nat → List Int → List (S38) → Bool → Int → Int → Bool → Option (Bool)
  | 0, _, _, _, _, _, _ => none
  | k + 1, x0, x1, x2, x3, x4, x29 => if x29 = true then ((zoneinfolaw17_awake.f k).bind fun t248 => (some t248)) else ((zoneinforef14_Size.f x2).bind fun t249 => (if (wrap64 (t249 + 4)) = 0 then (none) else (if 0 ≤ (wrap64 ((wrap64 ((x0.length : Int) / (wrap64 (t249 + 4)))) * (wrap64 (t249 + 4)))) then (if (wrap64 ((wrap64 ((x0.length : Int) / (wrap64 (t249 + 4)))) * (wrap64 (t249 + 4)))) ≤ (x0.length : Int) then ((leaps_Decode.f k (x0.take ((wrap64 ((wrap64 ((x0.length : Int) / (wrap64 (t249 + 4)))) * (wrap64 (t249 + 4)))) : Int).toNat) t249).bind fun t251 => ((zoneinforef17_Decode.f k (x0.take ((wrap64 ((wrap64 ((x0.length : Int) / (wrap64 (t249 + 4)))) * (wrap64 (t249 + 4)))) : Int).toNat) t249).bind fun t254 => ((zoneinforef17_Same.f k t251 t254).bind fun t257 => (if t257 = true then ((leaps_Encode.f k x1 t249).bind fun t258 => ((zoneinforef17_Encode.f k x1 t249).bind fun t261 => ((zoneinforef01_Same.f k t258 t261).bind fun t264 => (if t264 = true then ((leaps_Valid.f x1 (wrap64 (1 + (wrap64 (Int.tmod x3 4))))).bind fun t265 => ((zoneinforef17_Valid.f k x1 (wrap64 (1 + (wrap64 (Int.tmod x3 4))))).bind fun t266 => (if (t265 != t266) = true then (zoneinfolaw17_LeapsMatchReference.j1 k x1 x4 true) else ((leaps_NeedsV4.f x1).bind fun t267 => ((zoneinforef17_NeedsV4.f k x1).bind fun t268 => (zoneinfolaw17_LeapsMatchReference.j1 k x1 x4 (t267 != t268))))))) else (zoneinfolaw17_LeapsMatchReference.j1 k x1 x4 true))))) else (zoneinfolaw17_LeapsMatchReference.j1 k x1 x4 true))))) else (none)) else (none))))
def zoneinfolaw17_LeapsMatchReference.j1 : Nat → List (S38) → Int → Bool → Option (Bool)
  | 0, _, _, _ => none
  | k + 1, x1, x4, x80 => if x80 = true then (none) else ((zoneinforef17_Valid.f k x1 4).bind fun t269 => (if t269 = true then ((leaps_Expiry.f x1).bind fun bt270 => ((zoneinforef17_Expiry.f x1).bind fun bt272 => ((leaps_Correction.f k x1 x4).bind fun t274 => ((zoneinforef17_Correction.f k x1 x4).bind fun t275 => (if t274 = t275 then (if bt270.1 = bt272.1 then (some (bt270.2 == bt272.2)) else (none)) else (none)))))) else (some true)))
end
def zoneinfolaw17_LeapsMatchReference.f (k : Nat) (l0 : List Int) (l1 : List (S38)) (a2 : Bool) (a3 : Int) (a4 : Int) : Option (Bool) := (zoneinfolaw17_awake.f k).bind fun t247 => (if t247 = true then (if (l0.length : Int) > 1000 then (zoneinfolaw17_LeapsMatchReference.j0 k l0 l1 a2 a3 a4 true) else (zoneinfolaw17_LeapsMatchReference.j0 k l0 l1 a2 a3 a4 (decide ((l1.length : Int) > 100)))) else (zoneinfolaw17_LeapsMatchReference.j0 k l0 l1 a2 a3 a4 true))
theorem zoneinfolaw17_LeapsMatchReference.mono_l : ∀ k, (∀ y0 y1 y2 y3 y4 y5, LeO (zoneinfolaw17_LeapsMatchReference.j0 k y0 y1 y2 y3 y4 y5) (zoneinfolaw17_LeapsMatchReference.j0 (k + 1) y0 y1 y2 y3 y4 y5)) ∧ (∀ y0 y1 y2, LeO (zoneinfolaw17_LeapsMatchReference.j1 k y0 y1 y2) (zoneinfolaw17_LeapsMatchReference.j1 (k + 1) y0 y1 y2))
  | 0 => ⟨fun _ _ _ _ _ _ r h => by simp [zoneinfolaw17_LeapsMatchReference.j0] at h, fun _ _ _ r h => by simp [zoneinfolaw17_LeapsMatchReference.j1] at h⟩
  | k + 1 => by
    obtain ⟨ih0, ih1⟩ := zoneinfolaw17_LeapsMatchReference.mono_l k
    refine ⟨?_, ?_⟩
    · intro y0 y1 y2 y3 y4 y5
      unfold zoneinfolaw17_LeapsMatchReference.j0
      repeat' first
      | (with_reducible exact ih0 _ _ _ _ _ _)
      | (with_reducible exact ih1 _ _ _)
      | (with_reducible exact leaps_Correction.mono _ _ _)
      | (with_reducible exact leaps_Decode.mono _ _ _)
      | (with_reducible exact leaps_Encode.mono _ _ _)
      | (with_reducible exact zoneinfolaw17_awake.mono _)
      | (with_reducible exact zoneinforef01_Same.mono _ _ _)
      | (with_reducible exact zoneinforef17_Correction.mono _ _ _)
      | (with_reducible exact zoneinforef17_Decode.mono _ _ _)
      | (with_reducible exact zoneinforef17_Encode.mono _ _ _)
      | (with_reducible exact zoneinforef17_NeedsV4.mono _ _)
      | (with_reducible exact zoneinforef17_Same.mono _ _ _)
      | (with_reducible exact zoneinforef17_Valid.mono _ _ _)
      | (with_reducible exact LeO.refl _)
      | (with_reducible exact LeO.none _)
      | (with_reducible refine LeO.ite ?_ ?_)
      | (with_reducible refine LeO.bind ?_ (fun _ => ?_))
      | exact ih0 _ _ _ _ _ _
      | exact ih1 _ _ _
      | exact leaps_Correction.mono _ _ _
      | exact leaps_Decode.mono _ _ _
      | exact leaps_Encode.mono _ _ _
      | exact zoneinfolaw17_awake.mono _
      | exact zoneinforef01_Same.mono _ _ _
      | exact zoneinforef17_Correction.mono _ _ _
      | exact zoneinforef17_Decode.mono _ _ _
      | exact zoneinforef17_Encode.mono _ _ _
      | exact zoneinforef17_NeedsV4.mono _ _
      | exact zoneinforef17_Same.mono _ _ _
      | exact zoneinforef17_Valid.mono _ _ _
      | exact LeO.none _
      | refine LeO.ite ?_ ?_
      | refine LeO.bind ?_ (fun _ => ?_)
    · intro y0 y1 y2
      unfold zoneinfolaw17_LeapsMatchReference.j1
      repeat' first
      | (with_reducible exact ih0 _ _ _ _ _ _)
      | (with_reducible exact ih1 _ _ _)
      | (with_reducible exact leaps_Correction.mono _ _ _)
      | (with_reducible exact leaps_Decode.mono _ _ _)
      | (with_reducible exact leaps_Encode.mono _ _ _)
      | (with_reducible exact zoneinfolaw17_awake.mono _)
      | (with_reducible exact zoneinforef01_Same.mono _ _ _)
      | (with_reducible exact zoneinforef17_Correction.mono _ _ _)
      | (with_reducible exact zoneinforef17_Decode.mono _ _ _)
      | (with_reducible exact zoneinforef17_Encode.mono _ _ _)
      | (with_reducible exact zoneinforef17_NeedsV4.mono _ _)
      | (with_reducible exact zoneinforef17_Same.mono _ _ _)
      | (with_reducible exact zoneinforef17_Valid.mono _ _ _)
      | (with_reducible exact LeO.refl _)
      | (with_reducible exact LeO.none _)
      | (with_reducible refine LeO.ite ?_ ?_)
      | (with_reducible refine LeO.bind ?_ (fun _ => ?_))
      | exact ih0 _ _ _ _ _ _
      | exact ih1 _ _ _
      | exact leaps_Correction.mono _ _ _
      | exact leaps_Decode.mono _ _ _
      | exact leaps_Encode.mono _ _ _
      | exact zoneinfolaw17_awake.mono _
      | exact zoneinforef01_Same.mono _ _ _
      | exact zoneinforef17_Correction.mono _ _ _
      | exact zoneinforef17_Decode.mono _ _ _
      | exact zoneinforef17_Encode.mono _ _ _
      | exact zoneinforef17_NeedsV4.mono _ _
      | exact zoneinforef17_Same.mono _ _ _
      | exact zoneinforef17_Valid.mono _ _ _
      | exact LeO.none _
      | refine LeO.ite ?_ ?_
      | refine LeO.bind ?_ (fun _ => ?_)
theorem zoneinfolaw17_LeapsMatchReference.mono : ∀ a0 a1 a2 a3 a4 k, LeO (zoneinfolaw17_LeapsMatchReference.f k a0 a1 a2 a3 a4) (zoneinfolaw17_LeapsMatchReference.f (k + 1) a0 a1 a2 a3 a4) := by
  intro a0 a1 a2 a3 a4 k
  obtain ⟨ih0, ih1⟩ := zoneinfolaw17_LeapsMatchReference.mono_l k
  unfold zoneinfolaw17_LeapsMatchReference.f
  repeat' first
      | (with_reducible exact ih0 _ _ _ _ _ _)
      | (with_reducible exact ih1 _ _ _)
      | (with_reducible exact leaps_Correction.mono _ _ _)
      | (with_reducible exact leaps_Decode.mono _ _ _)
      | (with_reducible exact leaps_Encode.mono _ _ _)
      | (with_reducible exact zoneinfolaw17_awake.mono _)
      | (with_reducible exact zoneinforef01_Same.mono _ _ _)
      | (with_reducible exact zoneinforef17_Correction.mono _ _ _)
      | (with_reducible exact zoneinforef17_Decode.mono _ _ _)
      | (with_reducible exact zoneinforef17_Encode.mono _ _ _)
      | (with_reducible exact zoneinforef17_NeedsV4.mono _ _)
      | (with_reducible exact zoneinforef17_Same.mono _ _ _)
      | (with_reducible exact zoneinforef17_Valid.mono _ _ _)
      | (with_reducible exact LeO.refl _)
      | (with_reducible exact LeO.none _)
      | (with_reducible refine LeO.ite ?_ ?_)
      | (with_reducible refine LeO.bind ?_ (fun _ => ?_))
      | exact ih0 _ _ _ _ _ _
      | exact ih1 _ _ _
      | exact leaps_Correction.mono _ _ _
      | exact leaps_Decode.mono _ _ _
      | exact leaps_Encode.mono _ _ _
      | exact zoneinfolaw17_awake.mono _
      | exact zoneinforef01_Same.mono _ _ _
      | exact zoneinforef17_Correction.mono _ _ _
      | exact zoneinforef17_Decode.mono _ _ _
      | exact zoneinforef17_Encode.mono _ _ _
      | exact zoneinforef17_NeedsV4.mono _ _
      | exact zoneinforef17_Same.mono _ _ _
      | exact zoneinforef17_Valid.mono _ _ _
      | exact LeO.none _
      | refine LeO.ite ?_ ?_
      | refine LeO.bind ?_ (fun _ => ?_)
set_option maxHeartbeats 8000000 in
set_option maxRecDepth 100000 in
theorem zoneinfolaw17_LeapsMatchReference.calls (k : Nat) (A0 : Option Addr) (c0 : Nat) (l0 : List Int) (A1 : Option Addr) (c1 : Nat) (l1 : List (S38)) (a2 : Bool) (a3 : Int) (a4 : Int) (r : Bool) (w : World) (hr0 : Kd.C (Kd.int .u8) w A0 l0.length l0) (hc0 : l0.length ≤ c0) (hr1 : Kd.C k38 w A1 l1.length l1) (hc1 : l1.length ≤ c1) (hrg : GL w) (h : zoneinfolaw17_LeapsMatchReference.f k l0 l1 a2 a3 a4 = some r) :
    Calls Tryd.prog 3 #[.slice A0 l0.length c0, .slice A1 l1.length c1, .bool a2, .int .u8 a3, .int .i64 a4] w fun e w' => e = .returned (.bool r) ∧ Below w.heap.size w w' := by
  have HRg := Aside0.mk hrg
  clear hrg
  have HR0 := Aside0.mk hr0
  have HC0 := Aside0.mk hc0
  clear hr0 hc0
  have HR1 := Aside0.mk hr1
  have HC1 := Aside0.mk hc1
  clear hr1 hc1
  have HB := Aside0.mk (Below.refl w.heap.size w)
  have H : ((zoneinfolaw17_awake.f k).bind fun t247 => (if t247 = true then (if (l0.length : Int) > 1000 then (zoneinfolaw17_LeapsMatchReference.j0 k l0 l1 a2 a3 a4 true) else (zoneinfolaw17_LeapsMatchReference.j0 k l0 l1 a2 a3 a4 (decide ((l1.length : Int) > 100)))) else (zoneinfolaw17_LeapsMatchReference.j0 k l0 l1 a2 a3 a4 true))) = some r := h
  clear h
  have HC6 := Aside0.mk H
  clear H
  go_enter Tryd.func3, Tryd.ntmps3
  (try simp only [List.append_eq, List.cons_append, List.nil_append])
  go_upto_region 1 with (fail)
  go_cut [29] (fun v29 wc => ∃ (kq : Nat) (x29_5 : Bool), v29 = .bool x29_5 ∧ Aside0 (zoneinfolaw17_LeapsMatchReference.j0 kq l0 l1 a2 a3 a4 x29_5 = some r) ∧ Aside0 (kq ≤ k) ∧ Aside0 (Below w.heap.size w wc))
  case first =>
    have H := HC6.out
    clear HC6
    replace H := Option.bind_eq_some_iff.mp H
    obtain ⟨t247, A70, H⟩ := H
    replace H : (if t247 = true then (if (l0.length : Int) > 1000 then (zoneinfolaw17_LeapsMatchReference.j0 k l0 l1 a2 a3 a4 true) else (zoneinfolaw17_LeapsMatchReference.j0 k l0 l1 a2 a3 a4 (decide ((l1.length : Int) > 100)))) else (zoneinfolaw17_LeapsMatchReference.j0 k l0 l1 a2 a3 a4 true)) = some r := H
    have A7 := Aside0.mk A70
    clear A70
    by_cases c8 : t247 = true
    · subst c8
      have H1 : (if (l0.length : Int) > 1000 then (zoneinfolaw17_LeapsMatchReference.j0 k l0 l1 a2 a3 a4 true) else (zoneinfolaw17_LeapsMatchReference.j0 k l0 l1 a2 a3 a4 (decide ((l1.length : Int) > 100)))) = some r := by rw [if_pos rfl] at H; exact H
      clear H
      have H := H1
      clear H1
      by_cases c9 : (l0.length : Int) > 1000
      · rw [if_pos c9] at H
        have c9b0 : decide (1000 < (l0.length : Int)) = true := decide_eq_true c9
        have c9b1 : decide (1000 < l0.length) = true := decide_eq_true (by omega)
        clear c9
        (first | rw [c9b0] | (simp only [i64_w, i32_w]; rw [c9b0]) | skip)
        have H' := Aside0.mk H
        clear H
        go_wp2_with (first | (go_at_call 7; (with_reducible refine (zoneinfolaw17_awake.calls k  true _ ?side1 A7.out).mono ?_); (case side1 => repeat (first | exact (Kd.C_below HRg.out HB.out) | (with_reducible refine Kd.C_alloc ?_ _) | (with_reducible refine Kd.C_drewN ?_ _) | (with_reducible refine Kd.C_drew ?_))); rintro e w10 ⟨rfl, hb⟩; have n0_ := Aside0.mk (below_step (by repeat (first | (with_reducible first | exact HB.out | apply below_alloc | apply pw_below_drewN | apply below_drew1) | exact HB.out)) hb); clear HB; have HB := n0_; clear n0_; (try clear hb); (try clear hb2); (try clear hk); (try clear hi)))
        go_meet
        case rel => exact ⟨_, (true), (by first | rfl | (simp; done) | (simp [*]; done)), H', ⟨by first | omega | exact Nat.le_refl _⟩, ⟨by repeat (first | (with_reducible first | exact HB.out | apply below_alloc | apply pw_below_drewN | apply below_drew1) | exact HB.out)⟩⟩
      · rw [if_neg c9] at H
        have c9b0 : decide (1000 < (l0.length : Int)) = false := decide_eq_false c9
        have c9b1 : decide (1000 < l0.length) = false := decide_eq_false (by omega)
        clear c9
        (first | rw [c9b0] | (simp only [i64_w, i32_w]; rw [c9b0]) | skip)
        have H' := Aside0.mk H
        clear H
        go_wp2_with (first | (go_at_call 7; (with_reducible refine (zoneinfolaw17_awake.calls k  true _ ?side1 A7.out).mono ?_); (case side1 => repeat (first | exact (Kd.C_below HRg.out HB.out) | (with_reducible refine Kd.C_alloc ?_ _) | (with_reducible refine Kd.C_drewN ?_ _) | (with_reducible refine Kd.C_drew ?_))); rintro e w11 ⟨rfl, hb⟩; have n0_ := Aside0.mk (below_step (by repeat (first | (with_reducible first | exact HB.out | apply below_alloc | apply pw_below_drewN | apply below_drew1) | exact HB.out)) hb); clear HB; have HB := n0_; clear n0_; (try clear hb); (try clear hb2); (try clear hk); (try clear hi)))
        go_meet
        case rel => exact ⟨_, (decide ((l1.length : Int) > 100)), (by first | rfl | (simp; done) | (simp [*]; done)), H', ⟨by first | omega | exact Nat.le_refl _⟩, ⟨by repeat (first | (with_reducible first | exact HB.out | apply below_alloc | apply pw_below_drewN | apply below_drew1) | exact HB.out)⟩⟩
    · replace c8 := Bool.eq_false_iff.mpr c8
      subst c8
      have H1 : (zoneinfolaw17_LeapsMatchReference.j0 k l0 l1 a2 a3 a4 true) = some r := by rw [if_neg (show ¬ (false = true) by decide)] at H; exact H
      clear H
      have H := H1
      clear H1
      have H' := Aside0.mk H
      clear H
      go_wp2_with (first | (go_at_call 7; (with_reducible refine (zoneinfolaw17_awake.calls k  false _ ?side1 A7.out).mono ?_); (case side1 => repeat (first | exact (Kd.C_below HRg.out HB.out) | (with_reducible refine Kd.C_alloc ?_ _) | (with_reducible refine Kd.C_drewN ?_ _) | (with_reducible refine Kd.C_drew ?_))); rintro e w12 ⟨rfl, hb⟩; have n0_ := Aside0.mk (below_step (by repeat (first | (with_reducible first | exact HB.out | apply below_alloc | apply pw_below_drewN | apply below_drew1) | exact HB.out)) hb); clear HB; have HB := n0_; clear n0_; (try clear hb); (try clear hb2); (try clear hk); (try clear hi)))
      go_meet
      case rel => exact ⟨_, (true), (by first | rfl | (simp; done) | (simp [*]; done)), H', ⟨by first | omega | exact Nat.le_refl _⟩, ⟨by repeat (first | (with_reducible first | exact HB.out | apply below_alloc | apply pw_below_drewN | apply below_drew1) | exact HB.out)⟩⟩
  case rest =>
    clear HC6
    try clear c1
    try clear p2
    try clear c3
    try clear c8
    try clear c9
    try clear c9b0
    try clear c9b1
    obtain ⟨kq, x29_5, rfl, HA, HJ5, HB⟩ := hcut
    cases kq with
    | zero => exact absurd HA.out (by simp [zoneinfolaw17_LeapsMatchReference.j0])
    | succ kj5 =>
      have H := HA.out
      clear HA
      simp only [zoneinfolaw17_LeapsMatchReference.j0] at H
      by_cases c13 : x29_5 = true
      · subst c13
        have H1 : ((zoneinfolaw17_awake.f kj5).bind fun t248 => (some t248)) = some r := by rw [if_pos rfl] at H; exact H
        clear H
        have H := H1
        clear H1
        replace H := Option.bind_eq_some_iff.mp H
        obtain ⟨t248, A140, H⟩ := H
        replace H : (some t248) = some r := H
        have A14 := Aside0.mk A140
        clear A140
        obtain rfl := Option.some.inj H
        go_wp2_with (first | ((with_reducible refine gate_callee (f := 7) rfl ?_); refine goesL_ (some 30) rfl rfl Tryd.func7 (by kernel_rfl) rfl #[] rfl (by (try simp only [List.map_toArray, List.map_cons, List.map_nil]); first | done | rfl | (simp only [List.length_drop, List.length_take]; rfl)) ?_; (with_reducible refine (zoneinfolaw17_awake.calls kj5  t248 _ ?side1 A14.out).mono ?_); (case side1 => repeat (first | exact (Kd.C_below HRg.out HB.out) | (with_reducible refine Kd.C_alloc ?_ _) | (with_reducible refine Kd.C_drewN ?_ _) | (with_reducible refine Kd.C_drew ?_))); rintro e w15 ⟨rfl, hb⟩; refine ⟨_, rfl, ?_⟩; have n0_ := Aside0.mk (below_step (by repeat (first | (with_reducible first | exact HB.out | apply below_alloc | apply pw_below_drewN | apply below_drew1) | exact HB.out)) hb); clear HB; have HB := n0_; clear n0_; (try clear hb); (try clear hb2); (try clear hk); (try clear hi)))
        go_ret
        exact ⟨by first | rfl | (simp [errW_none, errW_some] <;> rfl) | (simp [*, errW_none, errW_some] <;> rfl), by repeat (first | (with_reducible first | exact HB.out | apply below_alloc | apply pw_below_drewN | apply below_drew1) | exact HB.out)⟩
      · replace c13 := Bool.eq_false_iff.mpr c13
        subst c13
        have H1 : ((zoneinforef14_Size.f a2).bind fun t249 => (if (wrap64 (t249 + 4)) = 0 then (none) else (if 0 ≤ (wrap64 ((wrap64 ((l0.length : Int) / (wrap64 (t249 + 4)))) * (wrap64 (t249 + 4)))) then (if (wrap64 ((wrap64 ((l0.length : Int) / (wrap64 (t249 + 4)))) * (wrap64 (t249 + 4)))) ≤ (l0.length : Int) then ((leaps_Decode.f kj5 (l0.take ((wrap64 ((wrap64 ((l0.length : Int) / (wrap64 (t249 + 4)))) * (wrap64 (t249 + 4)))) : Int).toNat) t249).bind fun t251 => ((zoneinforef17_Decode.f kj5 (l0.take ((wrap64 ((wrap64 ((l0.length : Int) / (wrap64 (t249 + 4)))) * (wrap64 (t249 + 4)))) : Int).toNat) t249).bind fun t254 => ((zoneinforef17_Same.f kj5 t251 t254).bind fun t257 => (if t257 = true then ((leaps_Encode.f kj5 l1 t249).bind fun t258 => ((zoneinforef17_Encode.f kj5 l1 t249).bind fun t261 => ((zoneinforef01_Same.f kj5 t258 t261).bind fun t264 => (if t264 = true then ((leaps_Valid.f l1 (wrap64 (1 + (wrap64 (Int.tmod a3 4))))).bind fun t265 => ((zoneinforef17_Valid.f kj5 l1 (wrap64 (1 + (wrap64 (Int.tmod a3 4))))).bind fun t266 => (if (t265 != t266) = true then (zoneinfolaw17_LeapsMatchReference.j1 kj5 l1 a4 true) else ((leaps_NeedsV4.f l1).bind fun t267 => ((zoneinforef17_NeedsV4.f kj5 l1).bind fun t268 => (zoneinfolaw17_LeapsMatchReference.j1 kj5 l1 a4 (t267 != t268))))))) else (zoneinfolaw17_LeapsMatchReference.j1 kj5 l1 a4 true))))) else (zoneinfolaw17_LeapsMatchReference.j1 kj5 l1 a4 true))))) else (none)) else (none)))) = some r := by rw [if_neg (show ¬ (false = true) by decide)] at H; exact H
        clear H
        have H := H1
        clear H1
        replace H := Option.bind_eq_some_iff.mp H
        obtain ⟨t249, A160, H⟩ := H
        replace H : (if (wrap64 (t249 + 4)) = 0 then (none) else (if 0 ≤ (wrap64 ((wrap64 ((l0.length : Int) / (wrap64 (t249 + 4)))) * (wrap64 (t249 + 4)))) then (if (wrap64 ((wrap64 ((l0.length : Int) / (wrap64 (t249 + 4)))) * (wrap64 (t249 + 4)))) ≤ (l0.length : Int) then ((leaps_Decode.f kj5 (l0.take ((wrap64 ((wrap64 ((l0.length : Int) / (wrap64 (t249 + 4)))) * (wrap64 (t249 + 4)))) : Int).toNat) t249).bind fun t251 => ((zoneinforef17_Decode.f kj5 (l0.take ((wrap64 ((wrap64 ((l0.length : Int) / (wrap64 (t249 + 4)))) * (wrap64 (t249 + 4)))) : Int).toNat) t249).bind fun t254 => ((zoneinforef17_Same.f kj5 t251 t254).bind fun t257 => (if t257 = true then ((leaps_Encode.f kj5 l1 t249).bind fun t258 => ((zoneinforef17_Encode.f kj5 l1 t249).bind fun t261 => ((zoneinforef01_Same.f kj5 t258 t261).bind fun t264 => (if t264 = true then ((leaps_Valid.f l1 (wrap64 (1 + (wrap64 (Int.tmod a3 4))))).bind fun t265 => ((zoneinforef17_Valid.f kj5 l1 (wrap64 (1 + (wrap64 (Int.tmod a3 4))))).bind fun t266 => (if (t265 != t266) = true then (zoneinfolaw17_LeapsMatchReference.j1 kj5 l1 a4 true) else ((leaps_NeedsV4.f l1).bind fun t267 => ((zoneinforef17_NeedsV4.f kj5 l1).bind fun t268 => (zoneinfolaw17_LeapsMatchReference.j1 kj5 l1 a4 (t267 != t268))))))) else (zoneinfolaw17_LeapsMatchReference.j1 kj5 l1 a4 true))))) else (zoneinfolaw17_LeapsMatchReference.j1 kj5 l1 a4 true))))) else (none)) else (none))) = some r := H
        have A16 := Aside0.mk A160
        clear A160
        by_cases c17 : (wrap64 (t249 + 4)) = 0
        · rw [if_pos c17] at H
          exact absurd H (by simp)
        · rw [if_neg c17] at H
          have c17b0 : ((wrap64 (t249 + 4)) == 0) = false := beq_eq_false_iff_ne.mpr c17
          have c17b1 : ((wrap64 (t249 + 4)) != 0) = true := bne_iff_ne.mpr c17
          obtain ⟨ji18, hji18⟩ : ∃ j_ : Int, (wrap64 ((wrap64 ((l0.length : Int) / (wrap64 (t249 + 4)))) * (wrap64 (t249 + 4)))) = j_ := ⟨_, rfl⟩
          replace H : (if 0 ≤ (ji18) then (if (ji18) ≤ (l0.length : Int) then ((leaps_Decode.f kj5 (l0.take ((ji18) : Int).toNat) t249).bind fun t251 => ((zoneinforef17_Decode.f kj5 (l0.take ((ji18) : Int).toNat) t249).bind fun t254 => ((zoneinforef17_Same.f kj5 t251 t254).bind fun t257 => (if t257 = true then ((leaps_Encode.f kj5 l1 t249).bind fun t258 => ((zoneinforef17_Encode.f kj5 l1 t249).bind fun t261 => ((zoneinforef01_Same.f kj5 t258 t261).bind fun t264 => (if t264 = true then ((leaps_Valid.f l1 (wrap64 (1 + (wrap64 (Int.tmod a3 4))))).bind fun t265 => ((zoneinforef17_Valid.f kj5 l1 (wrap64 (1 + (wrap64 (Int.tmod a3 4))))).bind fun t266 => (if (t265 != t266) = true then (zoneinfolaw17_LeapsMatchReference.j1 kj5 l1 a4 true) else ((leaps_NeedsV4.f l1).bind fun t267 => ((zoneinforef17_NeedsV4.f kj5 l1).bind fun t268 => (zoneinfolaw17_LeapsMatchReference.j1 kj5 l1 a4 (t267 != t268))))))) else (zoneinfolaw17_LeapsMatchReference.j1 kj5 l1 a4 true))))) else (zoneinfolaw17_LeapsMatchReference.j1 kj5 l1 a4 true))))) else (none)) else (none)) = some r := by first | (rw [hji18] at H; exact H) | (simp only [hji18] at H ⊢; exact H)
          (try rw [hji18] at A16)
          have hji18w : (IntKind.i64.wrap ((wrap64 ((l0.length : Int) / (wrap64 (t249 + 4)))) * (wrap64 (t249 + 4)))) = ji18 := (i64_w _).trans hji18
          by_cases c19 : 0 ≤ (ji18)
          · rw [if_pos c19] at H
            have c19b0 := eq_true c19
            have c19b1 : decide (0 ≤ (ji18)) = true := decide_eq_true c19
            clear c19
            by_cases c20 : (ji18) ≤ (l0.length : Int)
            · rw [if_pos c20] at H
              have c20b0 := eq_true c20
              have c20b1 : decide ((ji18) ≤ (l0.length : Int)) = true := decide_eq_true c20
              clear c20
              have HC21 := Aside0.mk H
              clear H
              go_upto_region 6 with (first | ((with_reducible refine gate_callee (f := 8) rfl ?_); refine goesL_ (some 32) rfl rfl Tryd.func8 (by kernel_rfl) rfl #[.bool a2] rfl (by (try simp only [List.map_toArray, List.map_cons, List.map_nil]); first | done | rfl | (simp only [List.length_drop, List.length_take]; rfl)) ?_; (with_reducible refine (zoneinforef14_Size.calls a2 t249 _ A16.out).mono ?_); rintro e w' ⟨rfl, ⟨nd, rfl⟩⟩; refine ⟨_, rfl, ?_⟩; obtain ⟨i022, hi022, _, hsz22, _⟩ := info_parts info5; obtain ⟨hcut22, hA22, hC22⟩ := print_take_of (P := Tryd.prog) (Value.int .u8) 0 22 5 .i64 Tryd.underlying22 hi022 hsz22 A0 c0 l0 (ji18) (of_decide_eq_true (by first | (with_reducible assumption) | assumption)) (of_decide_eq_true (by first | (with_reducible assumption) | assumption)) HC0.out; have HR250 := Aside0.mk (Kd.C_of_reads (h1 := fun _ => rfl) (hA22 _ (Kd.reads_of_C HR0.out))); have HC250 := Aside0.mk hC22; clear hA22 hC22 hi022 hsz22))
              (try simp only [Act.put, List.setIfInBounds_toArray, List.set_cons_zero, List.set_cons_succ])
              go_cut [80] (fun v80 wc => ∃ (kq : Nat) (x80_20 : Bool), v80 = .bool x80_20 ∧ Aside0 (zoneinfolaw17_LeapsMatchReference.j1 kq l1 a4 x80_20 = some r) ∧ Aside0 (kq ≤ kj5) ∧ Aside0 (Below w.heap.size w wc))
              case first =>
                have H := HC21.out
                clear HC21
                replace H := Option.bind_eq_some_iff.mp H
                obtain ⟨t251, A230, H⟩ := H
                replace H : ((zoneinforef17_Decode.f kj5 (l0.take ((ji18) : Int).toNat) t249).bind fun t254 => ((zoneinforef17_Same.f kj5 t251 t254).bind fun t257 => (if t257 = true then ((leaps_Encode.f kj5 l1 t249).bind fun t258 => ((zoneinforef17_Encode.f kj5 l1 t249).bind fun t261 => ((zoneinforef01_Same.f kj5 t258 t261).bind fun t264 => (if t264 = true then ((leaps_Valid.f l1 (wrap64 (1 + (wrap64 (Int.tmod a3 4))))).bind fun t265 => ((zoneinforef17_Valid.f kj5 l1 (wrap64 (1 + (wrap64 (Int.tmod a3 4))))).bind fun t266 => (if (t265 != t266) = true then (zoneinfolaw17_LeapsMatchReference.j1 kj5 l1 a4 true) else ((leaps_NeedsV4.f l1).bind fun t267 => ((zoneinforef17_NeedsV4.f kj5 l1).bind fun t268 => (zoneinfolaw17_LeapsMatchReference.j1 kj5 l1 a4 (t267 != t268))))))) else (zoneinfolaw17_LeapsMatchReference.j1 kj5 l1 a4 true))))) else (zoneinfolaw17_LeapsMatchReference.j1 kj5 l1 a4 true)))) = some r := H
                have A23 := Aside0.mk A230
                clear A230
                replace H := Option.bind_eq_some_iff.mp H
                obtain ⟨t254, A240, H⟩ := H
                replace H : ((zoneinforef17_Same.f kj5 t251 t254).bind fun t257 => (if t257 = true then ((leaps_Encode.f kj5 l1 t249).bind fun t258 => ((zoneinforef17_Encode.f kj5 l1 t249).bind fun t261 => ((zoneinforef01_Same.f kj5 t258 t261).bind fun t264 => (if t264 = true then ((leaps_Valid.f l1 (wrap64 (1 + (wrap64 (Int.tmod a3 4))))).bind fun t265 => ((zoneinforef17_Valid.f kj5 l1 (wrap64 (1 + (wrap64 (Int.tmod a3 4))))).bind fun t266 => (if (t265 != t266) = true then (zoneinfolaw17_LeapsMatchReference.j1 kj5 l1 a4 true) else ((leaps_NeedsV4.f l1).bind fun t267 => ((zoneinforef17_NeedsV4.f kj5 l1).bind fun t268 => (zoneinfolaw17_LeapsMatchReference.j1 kj5 l1 a4 (t267 != t268))))))) else (zoneinfolaw17_LeapsMatchReference.j1 kj5 l1 a4 true))))) else (zoneinfolaw17_LeapsMatchReference.j1 kj5 l1 a4 true))) = some r := H
                have A24 := Aside0.mk A240
                clear A240
                replace H := Option.bind_eq_some_iff.mp H
                obtain ⟨t257, A250, H⟩ := H
                replace H : (if t257 = true then ((leaps_Encode.f kj5 l1 t249).bind fun t258 => ((zoneinforef17_Encode.f kj5 l1 t249).bind fun t261 => ((zoneinforef01_Same.f kj5 t258 t261).bind fun t264 => (if t264 = true then ((leaps_Valid.f l1 (wrap64 (1 + (wrap64 (Int.tmod a3 4))))).bind fun t265 => ((zoneinforef17_Valid.f kj5 l1 (wrap64 (1 + (wrap64 (Int.tmod a3 4))))).bind fun t266 => (if (t265 != t266) = true then (zoneinfolaw17_LeapsMatchReference.j1 kj5 l1 a4 true) else ((leaps_NeedsV4.f l1).bind fun t267 => ((zoneinforef17_NeedsV4.f kj5 l1).bind fun t268 => (zoneinfolaw17_LeapsMatchReference.j1 kj5 l1 a4 (t267 != t268))))))) else (zoneinfolaw17_LeapsMatchReference.j1 kj5 l1 a4 true))))) else (zoneinfolaw17_LeapsMatchReference.j1 kj5 l1 a4 true)) = some r := H
                have A25 := Aside0.mk A250
                clear A250
                by_cases c26 : t257 = true
                · subst c26
                  have H1 : ((leaps_Encode.f kj5 l1 t249).bind fun t258 => ((zoneinforef17_Encode.f kj5 l1 t249).bind fun t261 => ((zoneinforef01_Same.f kj5 t258 t261).bind fun t264 => (if t264 = true then ((leaps_Valid.f l1 (wrap64 (1 + (wrap64 (Int.tmod a3 4))))).bind fun t265 => ((zoneinforef17_Valid.f kj5 l1 (wrap64 (1 + (wrap64 (Int.tmod a3 4))))).bind fun t266 => (if (t265 != t266) = true then (zoneinfolaw17_LeapsMatchReference.j1 kj5 l1 a4 true) else ((leaps_NeedsV4.f l1).bind fun t267 => ((zoneinforef17_NeedsV4.f kj5 l1).bind fun t268 => (zoneinfolaw17_LeapsMatchReference.j1 kj5 l1 a4 (t267 != t268))))))) else (zoneinfolaw17_LeapsMatchReference.j1 kj5 l1 a4 true))))) = some r := by rw [if_pos rfl] at H; exact H
                  clear H
                  have H := H1
                  clear H1
                  replace H := Option.bind_eq_some_iff.mp H
                  obtain ⟨t258, A270, H⟩ := H
                  replace H : ((zoneinforef17_Encode.f kj5 l1 t249).bind fun t261 => ((zoneinforef01_Same.f kj5 t258 t261).bind fun t264 => (if t264 = true then ((leaps_Valid.f l1 (wrap64 (1 + (wrap64 (Int.tmod a3 4))))).bind fun t265 => ((zoneinforef17_Valid.f kj5 l1 (wrap64 (1 + (wrap64 (Int.tmod a3 4))))).bind fun t266 => (if (t265 != t266) = true then (zoneinfolaw17_LeapsMatchReference.j1 kj5 l1 a4 true) else ((leaps_NeedsV4.f l1).bind fun t267 => ((zoneinforef17_NeedsV4.f kj5 l1).bind fun t268 => (zoneinfolaw17_LeapsMatchReference.j1 kj5 l1 a4 (t267 != t268))))))) else (zoneinfolaw17_LeapsMatchReference.j1 kj5 l1 a4 true)))) = some r := H
                  have A27 := Aside0.mk A270
                  clear A270
                  replace H := Option.bind_eq_some_iff.mp H
                  obtain ⟨t261, A280, H⟩ := H
                  replace H : ((zoneinforef01_Same.f kj5 t258 t261).bind fun t264 => (if t264 = true then ((leaps_Valid.f l1 (wrap64 (1 + (wrap64 (Int.tmod a3 4))))).bind fun t265 => ((zoneinforef17_Valid.f kj5 l1 (wrap64 (1 + (wrap64 (Int.tmod a3 4))))).bind fun t266 => (if (t265 != t266) = true then (zoneinfolaw17_LeapsMatchReference.j1 kj5 l1 a4 true) else ((leaps_NeedsV4.f l1).bind fun t267 => ((zoneinforef17_NeedsV4.f kj5 l1).bind fun t268 => (zoneinfolaw17_LeapsMatchReference.j1 kj5 l1 a4 (t267 != t268))))))) else (zoneinfolaw17_LeapsMatchReference.j1 kj5 l1 a4 true))) = some r := H
                  have A28 := Aside0.mk A280
                  clear A280
                  replace H := Option.bind_eq_some_iff.mp H
                  obtain ⟨t264, A290, H⟩ := H
                  replace H : (if t264 = true then ((leaps_Valid.f l1 (wrap64 (1 + (wrap64 (Int.tmod a3 4))))).bind fun t265 => ((zoneinforef17_Valid.f kj5 l1 (wrap64 (1 + (wrap64 (Int.tmod a3 4))))).bind fun t266 => (if (t265 != t266) = true then (zoneinfolaw17_LeapsMatchReference.j1 kj5 l1 a4 true) else ((leaps_NeedsV4.f l1).bind fun t267 => ((zoneinforef17_NeedsV4.f kj5 l1).bind fun t268 => (zoneinfolaw17_LeapsMatchReference.j1 kj5 l1 a4 (t267 != t268))))))) else (zoneinfolaw17_LeapsMatchReference.j1 kj5 l1 a4 true)) = some r := H
                  have A29 := Aside0.mk A290
                  clear A290
                  by_cases c30 : t264 = true
                  · subst c30
                    have H1 : ((leaps_Valid.f l1 (wrap64 (1 + (wrap64 (Int.tmod a3 4))))).bind fun t265 => ((zoneinforef17_Valid.f kj5 l1 (wrap64 (1 + (wrap64 (Int.tmod a3 4))))).bind fun t266 => (if (t265 != t266) = true then (zoneinfolaw17_LeapsMatchReference.j1 kj5 l1 a4 true) else ((leaps_NeedsV4.f l1).bind fun t267 => ((zoneinforef17_NeedsV4.f kj5 l1).bind fun t268 => (zoneinfolaw17_LeapsMatchReference.j1 kj5 l1 a4 (t267 != t268))))))) = some r := by rw [if_pos rfl] at H; exact H
                    clear H
                    have H := H1
                    clear H1
                    replace H := Option.bind_eq_some_iff.mp H
                    obtain ⟨t265, A310, H⟩ := H
                    replace H : ((zoneinforef17_Valid.f kj5 l1 (wrap64 (1 + (wrap64 (Int.tmod a3 4))))).bind fun t266 => (if (t265 != t266) = true then (zoneinfolaw17_LeapsMatchReference.j1 kj5 l1 a4 true) else ((leaps_NeedsV4.f l1).bind fun t267 => ((zoneinforef17_NeedsV4.f kj5 l1).bind fun t268 => (zoneinfolaw17_LeapsMatchReference.j1 kj5 l1 a4 (t267 != t268)))))) = some r := H
                    have A31 := Aside0.mk A310
                    clear A310
                    replace H := Option.bind_eq_some_iff.mp H
                    obtain ⟨t266, A320, H⟩ := H
                    replace H : (if (t265 != t266) = true then (zoneinfolaw17_LeapsMatchReference.j1 kj5 l1 a4 true) else ((leaps_NeedsV4.f l1).bind fun t267 => ((zoneinforef17_NeedsV4.f kj5 l1).bind fun t268 => (zoneinfolaw17_LeapsMatchReference.j1 kj5 l1 a4 (t267 != t268))))) = some r := H
                    have A32 := Aside0.mk A320
                    clear A320
                    by_cases c33 : (t265 != t266) = true
                    · rw [if_pos c33] at H
                      have c33b0 : (t265 != t266) = true := c33
                      (try (have c33b1 : decide (t265 = t266) = false := by simpa using c33))
                      (try (have c33b2 : (t265 == t266) = false := by simpa using c33))
                      (try (have c33b3 : ¬ (t265 = t266) := by simpa using c33))
                      clear c33
                      (first | rw [c33b0] | (simp only [i64_w, i32_w]; rw [c33b0]) | skip)
                      have H' := Aside0.mk H
                      clear H
                      go_wp2_with (first | (go_at_call 10; (try (rw [← (show (l0.take ((ji18) : Int).toNat).length = ((ji18) : Int).toNat from by (have h_ := of_decide_eq_true (p := (ji18) ≤ (l0.length : Int)) (by assumption)); rw [List.length_take]; omega)])); (with_reducible refine (leaps_Decode.calls kj5 _ _ (l0.take ((ji18) : Int).toNat) t249 t251 _ ?side1 ?side2 A23.out).mono ?_); (case side1 => repeat (first | exact (Kd.C_below HR250.out HB.out) | (with_reducible refine Kd.C_alloc ?_ _) | (with_reducible refine Kd.C_drewN ?_ _) | (with_reducible refine Kd.C_drew ?_))); (case side2 => exact HC250.out); rintro e w34 ⟨v252, rfl, ho0, hb⟩; have n0_ := Aside0.mk (Kd.R_lower ho0 (below_size (by repeat (first | (with_reducible first | exact HB.out | apply below_alloc | apply pw_below_drewN | apply below_drew1) | exact HB.out)))); have n1_ := Aside0.mk (below_step (by repeat (first | (with_reducible first | exact HB.out | apply below_alloc | apply pw_below_drewN | apply below_drew1) | exact HB.out)) hb); clear HB; have HO253 := n0_; have HB := n1_; clear n0_ n1_; (try clear hb); (try clear hb2); (try clear hk); (try clear hi); (try clear ho0)) | (go_at_call 11; (try (rw [← (show (l0.take ((ji18) : Int).toNat).length = ((ji18) : Int).toNat from by (have h_ := of_decide_eq_true (p := (ji18) ≤ (l0.length : Int)) (by assumption)); rw [List.length_take]; omega)])); (with_reducible refine (zoneinforef17_Decode.calls kj5 _ _ (l0.take ((ji18) : Int).toNat) t249 t254 _ ?side1 ?side2 A24.out).mono ?_); (case side1 => repeat (first | exact (Kd.C_below HR250.out HB.out) | (with_reducible refine Kd.C_alloc ?_ _) | (with_reducible refine Kd.C_drewN ?_ _) | (with_reducible refine Kd.C_drew ?_))); (case side2 => exact HC250.out); rintro e w35 ⟨v255, rfl, ho0, hb⟩; have n0_ := Aside0.mk (Kd.R_elder' (by (with_reducible repeat (first | apply Kd.R_alloc | apply Kd.R_drewN | apply Kd.R_drew)); exact HO253.out) (Kd.R_base ho0) hb); have n1_ := Aside0.mk (Kd.R_lower (Kd.R_new' ho0 (Kd.R_lt (by (with_reducible repeat (first | apply Kd.R_alloc | apply Kd.R_drewN | apply Kd.R_drew)); exact HO253.out))) (below_size (by repeat (first | (with_reducible first | exact HB.out | apply below_alloc | apply pw_below_drewN | apply below_drew1) | exact HB.out)))); have n2_ := Aside0.mk (below_step (by repeat (first | (with_reducible first | exact HB.out | apply below_alloc | apply pw_below_drewN | apply below_drew1) | exact HB.out)) hb); clear HO253; clear HB; have HO253 := n0_; have HO256 := n1_; have HB := n2_; clear n0_ n1_ n2_; (try clear hb); (try clear hb2); (try clear hk); (try clear hi); (try clear ho0); obtain ⟨Ao36, co36, eo36⟩ := Kd.R_slice HO253.out; subst eo36; obtain ⟨Ao37, co37, eo37⟩ := Kd.R_slice HO256.out; subst eo37) | (go_at_call 9; (with_reducible refine (zoneinforef17_Same.calls kj5 _ _ t251 _ _ t254 true _ ?side1 ?side2 ?side3 ?side4 A25.out).mono ?_); (case side1 => repeat (first | exact (Kd.R_reads' HO253.out).2.2 | (with_reducible refine Kd.C_alloc ?_ _) | (with_reducible refine Kd.C_drewN ?_ _) | (with_reducible refine Kd.C_drew ?_))); (case side2 => exact (Kd.R_reads' HO253.out).2.1); (case side3 => repeat (first | exact (Kd.R_reads' HO256.out).2.2 | (with_reducible refine Kd.C_alloc ?_ _) | (with_reducible refine Kd.C_drewN ?_ _) | (with_reducible refine Kd.C_drew ?_))); (case side4 => exact (Kd.R_reads' HO256.out).2.1); rintro e w' ⟨rfl, ⟨nd, rfl⟩⟩) | (go_at_call 13; (with_reducible refine (leaps_Encode.calls kj5 _ _ l1 t249 t258 _ ?side1 ?side2 A27.out).mono ?_); (case side1 => repeat (first | exact (Kd.C_below HR1.out (by repeat (first | (with_reducible first | exact HB.out | apply below_alloc | apply pw_below_drewN | apply below_drew1) | exact HB.out))) | (with_reducible refine Kd.C_alloc ?_ _) | (with_reducible refine Kd.C_drewN ?_ _) | (with_reducible refine Kd.C_drew ?_))); (case side2 => exact HC1.out); rintro e w38 ⟨v259, rfl, ho0, hb⟩; have n0_ := Aside0.mk (Kd.R_below (by (with_reducible repeat (first | apply Kd.R_alloc | apply Kd.R_drewN | apply Kd.R_drew)); exact HO253.out) hb); have n1_ := Aside0.mk (Kd.R_below (by (with_reducible repeat (first | apply Kd.R_alloc | apply Kd.R_drewN | apply Kd.R_drew)); exact HO256.out) hb); have n2_ := Aside0.mk (Kd.R_lower ho0 (below_size (by repeat (first | (with_reducible first | exact HB.out | apply below_alloc | apply pw_below_drewN | apply below_drew1) | exact HB.out)))); have n3_ := Aside0.mk (below_step (by repeat (first | (with_reducible first | exact HB.out | apply below_alloc | apply pw_below_drewN | apply below_drew1) | exact HB.out)) hb); clear HO253; clear HO256; clear HB; have HO253 := n0_; have HO256 := n1_; have HO260 := n2_; have HB := n3_; clear n0_ n1_ n2_ n3_; (try clear hb); (try clear hb2); (try clear hk); (try clear hi); (try clear ho0)) | (go_at_call 14; (with_reducible refine (zoneinforef17_Encode.calls kj5 _ _ l1 t249 t261 _ ?side1 ?side2 A28.out).mono ?_); (case side1 => repeat (first | exact (Kd.C_below HR1.out HB.out) | (with_reducible refine Kd.C_alloc ?_ _) | (with_reducible refine Kd.C_drewN ?_ _) | (with_reducible refine Kd.C_drew ?_))); (case side2 => exact HC1.out); rintro e w39 ⟨v262, rfl, ho0, hb⟩; have n0_ := Aside0.mk (Kd.R_below (by (with_reducible repeat (first | apply Kd.R_alloc | apply Kd.R_drewN | apply Kd.R_drew)); exact HO253.out) hb); have n1_ := Aside0.mk (Kd.R_below (by (with_reducible repeat (first | apply Kd.R_alloc | apply Kd.R_drewN | apply Kd.R_drew)); exact HO256.out) hb); have n2_ := Aside0.mk (Kd.R_elder' (by (with_reducible repeat (first | apply Kd.R_alloc | apply Kd.R_drewN | apply Kd.R_drew)); exact HO260.out) (Kd.R_base ho0) hb); have n3_ := Aside0.mk (Kd.R_lower (Kd.R_new' ho0 (Kd.R_lt (by (with_reducible repeat (first | apply Kd.R_alloc | apply Kd.R_drewN | apply Kd.R_drew)); exact HO260.out))) (below_size (by repeat (first | (with_reducible first | exact HB.out | apply below_alloc | apply pw_below_drewN | apply below_drew1) | exact HB.out)))); have n4_ := Aside0.mk (below_step (by repeat (first | (with_reducible first | exact HB.out | apply below_alloc | apply pw_below_drewN | apply below_drew1) | exact HB.out)) hb); clear HO253; clear HO256; clear HO260; clear HB; have HO253 := n0_; have HO256 := n1_; have HO260 := n2_; have HO263 := n3_; have HB := n4_; clear n0_ n1_ n2_ n3_ n4_; (try clear hb); (try clear hb2); (try clear hk); (try clear hi); (try clear ho0); obtain ⟨Ao40, co40, eo40⟩ := Kd.R_slice HO260.out; subst eo40; obtain ⟨Ao41, co41, eo41⟩ := Kd.R_slice HO263.out; subst eo41) | (go_at_call 12; (with_reducible refine (zoneinforef01_Same.calls kj5 _ _ t258 _ _ t261 true _ ?side1 ?side2 ?side3 ?side4 A29.out).mono ?_); (case side1 => repeat (first | exact (Kd.R_reads' HO260.out).2.2 | (with_reducible refine Kd.C_alloc ?_ _) | (with_reducible refine Kd.C_drewN ?_ _) | (with_reducible refine Kd.C_drew ?_))); (case side2 => exact (Kd.R_reads' HO260.out).2.1); (case side3 => repeat (first | exact (Kd.R_reads' HO263.out).2.2 | (with_reducible refine Kd.C_alloc ?_ _) | (with_reducible refine Kd.C_drewN ?_ _) | (with_reducible refine Kd.C_drew ?_))); (case side4 => exact (Kd.R_reads' HO263.out).2.1); rintro e w' ⟨rfl, ⟨nd, rfl⟩⟩) | (go_at_call 15; (with_reducible refine (leaps_Valid.calls _ _ l1 (wrap64 (1 + (wrap64 (Int.tmod a3 4)))) t265 _ ?side1 ?side2 ?side3 A31.out).mono ?_); (case side1 => repeat (first | exact (Kd.C_below HR1.out (by repeat (first | (with_reducible first | exact HB.out | apply below_alloc | apply pw_below_drewN | apply below_drew1) | exact HB.out))) | (with_reducible refine Kd.C_alloc ?_ _) | (with_reducible refine Kd.C_drewN ?_ _) | (with_reducible refine Kd.C_drew ?_))); (case side2 => exact HC1.out); (case side3 => repeat (first | exact (Kd.C_below HRg.out (by repeat (first | (with_reducible first | exact HB.out | apply below_alloc | apply pw_below_drewN | apply below_drew1) | exact HB.out))) | (with_reducible refine Kd.C_alloc ?_ _) | (with_reducible refine Kd.C_drewN ?_ _) | (with_reducible refine Kd.C_drew ?_))); rintro e w42 ⟨rfl, hb⟩; have n0_ := Aside0.mk (Kd.R_below (by (with_reducible repeat (first | apply Kd.R_alloc | apply Kd.R_drewN | apply Kd.R_drew)); exact HO253.out) hb); have n1_ := Aside0.mk (Kd.R_below (by (with_reducible repeat (first | apply Kd.R_alloc | apply Kd.R_drewN | apply Kd.R_drew)); exact HO256.out) hb); have n2_ := Aside0.mk (Kd.R_below (by (with_reducible repeat (first | apply Kd.R_alloc | apply Kd.R_drewN | apply Kd.R_drew)); exact HO260.out) hb); have n3_ := Aside0.mk (Kd.R_below (by (with_reducible repeat (first | apply Kd.R_alloc | apply Kd.R_drewN | apply Kd.R_drew)); exact HO263.out) hb); have n4_ := Aside0.mk (below_step (by repeat (first | (with_reducible first | exact HB.out | apply below_alloc | apply pw_below_drewN | apply below_drew1) | exact HB.out)) hb); clear HO253; clear HO256; clear HO260; clear HO263; clear HB; have HO253 := n0_; have HO256 := n1_; have HO260 := n2_; have HO263 := n3_; have HB := n4_; clear n0_ n1_ n2_ n3_ n4_; (try clear hb); (try clear hb2); (try clear hk); (try clear hi)) | (go_at_call 16; (with_reducible refine (zoneinforef17_Valid.calls kj5 _ _ l1 (wrap64 (1 + (wrap64 (Int.tmod a3 4)))) t266 _ ?side1 ?side2 A32.out).mono ?_); (case side1 => repeat (first | exact (Kd.C_below HR1.out HB.out) | (with_reducible refine Kd.C_alloc ?_ _) | (with_reducible refine Kd.C_drewN ?_ _) | (with_reducible refine Kd.C_drew ?_))); (case side2 => exact HC1.out); rintro e w' ⟨rfl, ⟨nd, rfl⟩⟩))
                      go_meet
                      case rel => exact ⟨_, (true), (by first | rfl | (simp; done) | (simp [*]; done)), H', ⟨by have := HJ5.out; first | omega | exact Nat.le_refl _⟩, ⟨by repeat (first | (with_reducible first | exact HB.out | apply below_alloc | apply pw_below_drewN | apply below_drew1) | exact HB.out)⟩⟩
                    · rw [if_neg c33] at H
                      have c33b0 : (t265 != t266) = false := by simpa using c33
                      (try (have c33b1 : decide (t265 = t266) = true := by simpa using c33))
                      (try (have c33b2 : (t265 == t266) = true := by simpa using c33))
                      clear c33
                      (first | rw [c33b0] | (simp only [i64_w, i32_w]; rw [c33b0]) | skip)
                      replace H := Option.bind_eq_some_iff.mp H
                      obtain ⟨t267, A430, H⟩ := H
                      replace H : ((zoneinforef17_NeedsV4.f kj5 l1).bind fun t268 => (zoneinfolaw17_LeapsMatchReference.j1 kj5 l1 a4 (t267 != t268))) = some r := H
                      have A43 := Aside0.mk A430
                      clear A430
                      replace H := Option.bind_eq_some_iff.mp H
                      obtain ⟨t268, A440, H⟩ := H
                      replace H : (zoneinfolaw17_LeapsMatchReference.j1 kj5 l1 a4 (t267 != t268)) = some r := H
                      have A44 := Aside0.mk A440
                      clear A440
                      have H' := Aside0.mk H
                      clear H
                      go_wp2_with (first | (go_at_call 10; (try (rw [← (show (l0.take ((ji18) : Int).toNat).length = ((ji18) : Int).toNat from by (have h_ := of_decide_eq_true (p := (ji18) ≤ (l0.length : Int)) (by assumption)); rw [List.length_take]; omega)])); (with_reducible refine (leaps_Decode.calls kj5 _ _ (l0.take ((ji18) : Int).toNat) t249 t251 _ ?side1 ?side2 A23.out).mono ?_); (case side1 => repeat (first | exact (Kd.C_below HR250.out HB.out) | (with_reducible refine Kd.C_alloc ?_ _) | (with_reducible refine Kd.C_drewN ?_ _) | (with_reducible refine Kd.C_drew ?_))); (case side2 => exact HC250.out); rintro e w45 ⟨v252, rfl, ho0, hb⟩; have n0_ := Aside0.mk (Kd.R_lower ho0 (below_size (by repeat (first | (with_reducible first | exact HB.out | apply below_alloc | apply pw_below_drewN | apply below_drew1) | exact HB.out)))); have n1_ := Aside0.mk (below_step (by repeat (first | (with_reducible first | exact HB.out | apply below_alloc | apply pw_below_drewN | apply below_drew1) | exact HB.out)) hb); clear HB; have HO253 := n0_; have HB := n1_; clear n0_ n1_; (try clear hb); (try clear hb2); (try clear hk); (try clear hi); (try clear ho0)) | (go_at_call 11; (try (rw [← (show (l0.take ((ji18) : Int).toNat).length = ((ji18) : Int).toNat from by (have h_ := of_decide_eq_true (p := (ji18) ≤ (l0.length : Int)) (by assumption)); rw [List.length_take]; omega)])); (with_reducible refine (zoneinforef17_Decode.calls kj5 _ _ (l0.take ((ji18) : Int).toNat) t249 t254 _ ?side1 ?side2 A24.out).mono ?_); (case side1 => repeat (first | exact (Kd.C_below HR250.out HB.out) | (with_reducible refine Kd.C_alloc ?_ _) | (with_reducible refine Kd.C_drewN ?_ _) | (with_reducible refine Kd.C_drew ?_))); (case side2 => exact HC250.out); rintro e w46 ⟨v255, rfl, ho0, hb⟩; have n0_ := Aside0.mk (Kd.R_elder' (by (with_reducible repeat (first | apply Kd.R_alloc | apply Kd.R_drewN | apply Kd.R_drew)); exact HO253.out) (Kd.R_base ho0) hb); have n1_ := Aside0.mk (Kd.R_lower (Kd.R_new' ho0 (Kd.R_lt (by (with_reducible repeat (first | apply Kd.R_alloc | apply Kd.R_drewN | apply Kd.R_drew)); exact HO253.out))) (below_size (by repeat (first | (with_reducible first | exact HB.out | apply below_alloc | apply pw_below_drewN | apply below_drew1) | exact HB.out)))); have n2_ := Aside0.mk (below_step (by repeat (first | (with_reducible first | exact HB.out | apply below_alloc | apply pw_below_drewN | apply below_drew1) | exact HB.out)) hb); clear HO253; clear HB; have HO253 := n0_; have HO256 := n1_; have HB := n2_; clear n0_ n1_ n2_; (try clear hb); (try clear hb2); (try clear hk); (try clear hi); (try clear ho0); obtain ⟨Ao47, co47, eo47⟩ := Kd.R_slice HO253.out; subst eo47; obtain ⟨Ao48, co48, eo48⟩ := Kd.R_slice HO256.out; subst eo48) | (go_at_call 9; (with_reducible refine (zoneinforef17_Same.calls kj5 _ _ t251 _ _ t254 true _ ?side1 ?side2 ?side3 ?side4 A25.out).mono ?_); (case side1 => repeat (first | exact (Kd.R_reads' HO253.out).2.2 | (with_reducible refine Kd.C_alloc ?_ _) | (with_reducible refine Kd.C_drewN ?_ _) | (with_reducible refine Kd.C_drew ?_))); (case side2 => exact (Kd.R_reads' HO253.out).2.1); (case side3 => repeat (first | exact (Kd.R_reads' HO256.out).2.2 | (with_reducible refine Kd.C_alloc ?_ _) | (with_reducible refine Kd.C_drewN ?_ _) | (with_reducible refine Kd.C_drew ?_))); (case side4 => exact (Kd.R_reads' HO256.out).2.1); rintro e w' ⟨rfl, ⟨nd, rfl⟩⟩) | (go_at_call 13; (with_reducible refine (leaps_Encode.calls kj5 _ _ l1 t249 t258 _ ?side1 ?side2 A27.out).mono ?_); (case side1 => repeat (first | exact (Kd.C_below HR1.out (by repeat (first | (with_reducible first | exact HB.out | apply below_alloc | apply pw_below_drewN | apply below_drew1) | exact HB.out))) | (with_reducible refine Kd.C_alloc ?_ _) | (with_reducible refine Kd.C_drewN ?_ _) | (with_reducible refine Kd.C_drew ?_))); (case side2 => exact HC1.out); rintro e w49 ⟨v259, rfl, ho0, hb⟩; have n0_ := Aside0.mk (Kd.R_below (by (with_reducible repeat (first | apply Kd.R_alloc | apply Kd.R_drewN | apply Kd.R_drew)); exact HO253.out) hb); have n1_ := Aside0.mk (Kd.R_below (by (with_reducible repeat (first | apply Kd.R_alloc | apply Kd.R_drewN | apply Kd.R_drew)); exact HO256.out) hb); have n2_ := Aside0.mk (Kd.R_lower ho0 (below_size (by repeat (first | (with_reducible first | exact HB.out | apply below_alloc | apply pw_below_drewN | apply below_drew1) | exact HB.out)))); have n3_ := Aside0.mk (below_step (by repeat (first | (with_reducible first | exact HB.out | apply below_alloc | apply pw_below_drewN | apply below_drew1) | exact HB.out)) hb); clear HO253; clear HO256; clear HB; have HO253 := n0_; have HO256 := n1_; have HO260 := n2_; have HB := n3_; clear n0_ n1_ n2_ n3_; (try clear hb); (try clear hb2); (try clear hk); (try clear hi); (try clear ho0)) | (go_at_call 14; (with_reducible refine (zoneinforef17_Encode.calls kj5 _ _ l1 t249 t261 _ ?side1 ?side2 A28.out).mono ?_); (case side1 => repeat (first | exact (Kd.C_below HR1.out HB.out) | (with_reducible refine Kd.C_alloc ?_ _) | (with_reducible refine Kd.C_drewN ?_ _) | (with_reducible refine Kd.C_drew ?_))); (case side2 => exact HC1.out); rintro e w50 ⟨v262, rfl, ho0, hb⟩; have n0_ := Aside0.mk (Kd.R_below (by (with_reducible repeat (first | apply Kd.R_alloc | apply Kd.R_drewN | apply Kd.R_drew)); exact HO253.out) hb); have n1_ := Aside0.mk (Kd.R_below (by (with_reducible repeat (first | apply Kd.R_alloc | apply Kd.R_drewN | apply Kd.R_drew)); exact HO256.out) hb); have n2_ := Aside0.mk (Kd.R_elder' (by (with_reducible repeat (first | apply Kd.R_alloc | apply Kd.R_drewN | apply Kd.R_drew)); exact HO260.out) (Kd.R_base ho0) hb); have n3_ := Aside0.mk (Kd.R_lower (Kd.R_new' ho0 (Kd.R_lt (by (with_reducible repeat (first | apply Kd.R_alloc | apply Kd.R_drewN | apply Kd.R_drew)); exact HO260.out))) (below_size (by repeat (first | (with_reducible first | exact HB.out | apply below_alloc | apply pw_below_drewN | apply below_drew1) | exact HB.out)))); have n4_ := Aside0.mk (below_step (by repeat (first | (with_reducible first | exact HB.out | apply below_alloc | apply pw_below_drewN | apply below_drew1) | exact HB.out)) hb); clear HO253; clear HO256; clear HO260; clear HB; have HO253 := n0_; have HO256 := n1_; have HO260 := n2_; have HO263 := n3_; have HB := n4_; clear n0_ n1_ n2_ n3_ n4_; (try clear hb); (try clear hb2); (try clear hk); (try clear hi); (try clear ho0); obtain ⟨Ao51, co51, eo51⟩ := Kd.R_slice HO260.out; subst eo51; obtain ⟨Ao52, co52, eo52⟩ := Kd.R_slice HO263.out; subst eo52) | (go_at_call 12; (with_reducible refine (zoneinforef01_Same.calls kj5 _ _ t258 _ _ t261 true _ ?side1 ?side2 ?side3 ?side4 A29.out).mono ?_); (case side1 => repeat (first | exact (Kd.R_reads' HO260.out).2.2 | (with_reducible refine Kd.C_alloc ?_ _) | (with_reducible refine Kd.C_drewN ?_ _) | (with_reducible refine Kd.C_drew ?_))); (case side2 => exact (Kd.R_reads' HO260.out).2.1); (case side3 => repeat (first | exact (Kd.R_reads' HO263.out).2.2 | (with_reducible refine Kd.C_alloc ?_ _) | (with_reducible refine Kd.C_drewN ?_ _) | (with_reducible refine Kd.C_drew ?_))); (case side4 => exact (Kd.R_reads' HO263.out).2.1); rintro e w' ⟨rfl, ⟨nd, rfl⟩⟩) | (go_at_call 15; (with_reducible refine (leaps_Valid.calls _ _ l1 (wrap64 (1 + (wrap64 (Int.tmod a3 4)))) t265 _ ?side1 ?side2 ?side3 A31.out).mono ?_); (case side1 => repeat (first | exact (Kd.C_below HR1.out (by repeat (first | (with_reducible first | exact HB.out | apply below_alloc | apply pw_below_drewN | apply below_drew1) | exact HB.out))) | (with_reducible refine Kd.C_alloc ?_ _) | (with_reducible refine Kd.C_drewN ?_ _) | (with_reducible refine Kd.C_drew ?_))); (case side2 => exact HC1.out); (case side3 => repeat (first | exact (Kd.C_below HRg.out (by repeat (first | (with_reducible first | exact HB.out | apply below_alloc | apply pw_below_drewN | apply below_drew1) | exact HB.out))) | (with_reducible refine Kd.C_alloc ?_ _) | (with_reducible refine Kd.C_drewN ?_ _) | (with_reducible refine Kd.C_drew ?_))); rintro e w53 ⟨rfl, hb⟩; have n0_ := Aside0.mk (Kd.R_below (by (with_reducible repeat (first | apply Kd.R_alloc | apply Kd.R_drewN | apply Kd.R_drew)); exact HO253.out) hb); have n1_ := Aside0.mk (Kd.R_below (by (with_reducible repeat (first | apply Kd.R_alloc | apply Kd.R_drewN | apply Kd.R_drew)); exact HO256.out) hb); have n2_ := Aside0.mk (Kd.R_below (by (with_reducible repeat (first | apply Kd.R_alloc | apply Kd.R_drewN | apply Kd.R_drew)); exact HO260.out) hb); have n3_ := Aside0.mk (Kd.R_below (by (with_reducible repeat (first | apply Kd.R_alloc | apply Kd.R_drewN | apply Kd.R_drew)); exact HO263.out) hb); have n4_ := Aside0.mk (below_step (by repeat (first | (with_reducible first | exact HB.out | apply below_alloc | apply pw_below_drewN | apply below_drew1) | exact HB.out)) hb); clear HO253; clear HO256; clear HO260; clear HO263; clear HB; have HO253 := n0_; have HO256 := n1_; have HO260 := n2_; have HO263 := n3_; have HB := n4_; clear n0_ n1_ n2_ n3_ n4_; (try clear hb); (try clear hb2); (try clear hk); (try clear hi)) | (go_at_call 16; (with_reducible refine (zoneinforef17_Valid.calls kj5 _ _ l1 (wrap64 (1 + (wrap64 (Int.tmod a3 4)))) t266 _ ?side1 ?side2 A32.out).mono ?_); (case side1 => repeat (first | exact (Kd.C_below HR1.out HB.out) | (with_reducible refine Kd.C_alloc ?_ _) | (with_reducible refine Kd.C_drewN ?_ _) | (with_reducible refine Kd.C_drew ?_))); (case side2 => exact HC1.out); rintro e w' ⟨rfl, ⟨nd, rfl⟩⟩) | (go_at_call 17; (with_reducible refine (leaps_NeedsV4.calls _ _ l1 t267 _ ?side1 ?side2 ?side3 A43.out).mono ?_); (case side1 => repeat (first | exact (Kd.C_below HR1.out (by repeat (first | (with_reducible first | exact HB.out | apply below_alloc | apply pw_below_drewN | apply below_drew1) | exact HB.out))) | (with_reducible refine Kd.C_alloc ?_ _) | (with_reducible refine Kd.C_drewN ?_ _) | (with_reducible refine Kd.C_drew ?_))); (case side2 => exact HC1.out); (case side3 => repeat (first | exact (Kd.C_below HRg.out (by repeat (first | (with_reducible first | exact HB.out | apply below_alloc | apply pw_below_drewN | apply below_drew1) | exact HB.out))) | (with_reducible refine Kd.C_alloc ?_ _) | (with_reducible refine Kd.C_drewN ?_ _) | (with_reducible refine Kd.C_drew ?_))); rintro e w54 ⟨rfl, hb⟩; have n0_ := Aside0.mk (Kd.R_below (by (with_reducible repeat (first | apply Kd.R_alloc | apply Kd.R_drewN | apply Kd.R_drew)); exact HO253.out) hb); have n1_ := Aside0.mk (Kd.R_below (by (with_reducible repeat (first | apply Kd.R_alloc | apply Kd.R_drewN | apply Kd.R_drew)); exact HO256.out) hb); have n2_ := Aside0.mk (Kd.R_below (by (with_reducible repeat (first | apply Kd.R_alloc | apply Kd.R_drewN | apply Kd.R_drew)); exact HO260.out) hb); have n3_ := Aside0.mk (Kd.R_below (by (with_reducible repeat (first | apply Kd.R_alloc | apply Kd.R_drewN | apply Kd.R_drew)); exact HO263.out) hb); have n4_ := Aside0.mk (below_step (by repeat (first | (with_reducible first | exact HB.out | apply below_alloc | apply pw_below_drewN | apply below_drew1) | exact HB.out)) hb); clear HO253; clear HO256; clear HO260; clear HO263; clear HB; have HO253 := n0_; have HO256 := n1_; have HO260 := n2_; have HO263 := n3_; have HB := n4_; clear n0_ n1_ n2_ n3_ n4_; (try clear hb); (try clear hb2); (try clear hk); (try clear hi)) | (go_at_call 18; (with_reducible refine (zoneinforef17_NeedsV4.calls kj5 _ _ l1 t268 _ ?side1 ?side2 A44.out).mono ?_); (case side1 => repeat (first | exact (Kd.C_below HR1.out HB.out) | (with_reducible refine Kd.C_alloc ?_ _) | (with_reducible refine Kd.C_drewN ?_ _) | (with_reducible refine Kd.C_drew ?_))); (case side2 => exact HC1.out); rintro e w' ⟨rfl, ⟨nd, rfl⟩⟩))
                      go_meet
                      case rel => exact ⟨_, ((t267 != t268)), (by first | rfl | (simp; done) | (simp [*]; done)), H', ⟨by have := HJ5.out; first | omega | exact Nat.le_refl _⟩, ⟨by repeat (first | (with_reducible first | exact HB.out | apply below_alloc | apply pw_below_drewN | apply below_drew1) | exact HB.out)⟩⟩
                  · replace c30 := Bool.eq_false_iff.mpr c30
                    subst c30
                    have H1 : (zoneinfolaw17_LeapsMatchReference.j1 kj5 l1 a4 true) = some r := by rw [if_neg (show ¬ (false = true) by decide)] at H; exact H
                    clear H
                    have H := H1
                    clear H1
                    have H' := Aside0.mk H
                    clear H
                    go_wp2_with (first | (go_at_call 10; (try (rw [← (show (l0.take ((ji18) : Int).toNat).length = ((ji18) : Int).toNat from by (have h_ := of_decide_eq_true (p := (ji18) ≤ (l0.length : Int)) (by assumption)); rw [List.length_take]; omega)])); (with_reducible refine (leaps_Decode.calls kj5 _ _ (l0.take ((ji18) : Int).toNat) t249 t251 _ ?side1 ?side2 A23.out).mono ?_); (case side1 => repeat (first | exact (Kd.C_below HR250.out HB.out) | (with_reducible refine Kd.C_alloc ?_ _) | (with_reducible refine Kd.C_drewN ?_ _) | (with_reducible refine Kd.C_drew ?_))); (case side2 => exact HC250.out); rintro e w55 ⟨v252, rfl, ho0, hb⟩; have n0_ := Aside0.mk (Kd.R_lower ho0 (below_size (by repeat (first | (with_reducible first | exact HB.out | apply below_alloc | apply pw_below_drewN | apply below_drew1) | exact HB.out)))); have n1_ := Aside0.mk (below_step (by repeat (first | (with_reducible first | exact HB.out | apply below_alloc | apply pw_below_drewN | apply below_drew1) | exact HB.out)) hb); clear HB; have HO253 := n0_; have HB := n1_; clear n0_ n1_; (try clear hb); (try clear hb2); (try clear hk); (try clear hi); (try clear ho0)) | (go_at_call 11; (try (rw [← (show (l0.take ((ji18) : Int).toNat).length = ((ji18) : Int).toNat from by (have h_ := of_decide_eq_true (p := (ji18) ≤ (l0.length : Int)) (by assumption)); rw [List.length_take]; omega)])); (with_reducible refine (zoneinforef17_Decode.calls kj5 _ _ (l0.take ((ji18) : Int).toNat) t249 t254 _ ?side1 ?side2 A24.out).mono ?_); (case side1 => repeat (first | exact (Kd.C_below HR250.out HB.out) | (with_reducible refine Kd.C_alloc ?_ _) | (with_reducible refine Kd.C_drewN ?_ _) | (with_reducible refine Kd.C_drew ?_))); (case side2 => exact HC250.out); rintro e w56 ⟨v255, rfl, ho0, hb⟩; have n0_ := Aside0.mk (Kd.R_elder' (by (with_reducible repeat (first | apply Kd.R_alloc | apply Kd.R_drewN | apply Kd.R_drew)); exact HO253.out) (Kd.R_base ho0) hb); have n1_ := Aside0.mk (Kd.R_lower (Kd.R_new' ho0 (Kd.R_lt (by (with_reducible repeat (first | apply Kd.R_alloc | apply Kd.R_drewN | apply Kd.R_drew)); exact HO253.out))) (below_size (by repeat (first | (with_reducible first | exact HB.out | apply below_alloc | apply pw_below_drewN | apply below_drew1) | exact HB.out)))); have n2_ := Aside0.mk (below_step (by repeat (first | (with_reducible first | exact HB.out | apply below_alloc | apply pw_below_drewN | apply below_drew1) | exact HB.out)) hb); clear HO253; clear HB; have HO253 := n0_; have HO256 := n1_; have HB := n2_; clear n0_ n1_ n2_; (try clear hb); (try clear hb2); (try clear hk); (try clear hi); (try clear ho0); obtain ⟨Ao57, co57, eo57⟩ := Kd.R_slice HO253.out; subst eo57; obtain ⟨Ao58, co58, eo58⟩ := Kd.R_slice HO256.out; subst eo58) | (go_at_call 9; (with_reducible refine (zoneinforef17_Same.calls kj5 _ _ t251 _ _ t254 true _ ?side1 ?side2 ?side3 ?side4 A25.out).mono ?_); (case side1 => repeat (first | exact (Kd.R_reads' HO253.out).2.2 | (with_reducible refine Kd.C_alloc ?_ _) | (with_reducible refine Kd.C_drewN ?_ _) | (with_reducible refine Kd.C_drew ?_))); (case side2 => exact (Kd.R_reads' HO253.out).2.1); (case side3 => repeat (first | exact (Kd.R_reads' HO256.out).2.2 | (with_reducible refine Kd.C_alloc ?_ _) | (with_reducible refine Kd.C_drewN ?_ _) | (with_reducible refine Kd.C_drew ?_))); (case side4 => exact (Kd.R_reads' HO256.out).2.1); rintro e w' ⟨rfl, ⟨nd, rfl⟩⟩) | (go_at_call 13; (with_reducible refine (leaps_Encode.calls kj5 _ _ l1 t249 t258 _ ?side1 ?side2 A27.out).mono ?_); (case side1 => repeat (first | exact (Kd.C_below HR1.out (by repeat (first | (with_reducible first | exact HB.out | apply below_alloc | apply pw_below_drewN | apply below_drew1) | exact HB.out))) | (with_reducible refine Kd.C_alloc ?_ _) | (with_reducible refine Kd.C_drewN ?_ _) | (with_reducible refine Kd.C_drew ?_))); (case side2 => exact HC1.out); rintro e w59 ⟨v259, rfl, ho0, hb⟩; have n0_ := Aside0.mk (Kd.R_below (by (with_reducible repeat (first | apply Kd.R_alloc | apply Kd.R_drewN | apply Kd.R_drew)); exact HO253.out) hb); have n1_ := Aside0.mk (Kd.R_below (by (with_reducible repeat (first | apply Kd.R_alloc | apply Kd.R_drewN | apply Kd.R_drew)); exact HO256.out) hb); have n2_ := Aside0.mk (Kd.R_lower ho0 (below_size (by repeat (first | (with_reducible first | exact HB.out | apply below_alloc | apply pw_below_drewN | apply below_drew1) | exact HB.out)))); have n3_ := Aside0.mk (below_step (by repeat (first | (with_reducible first | exact HB.out | apply below_alloc | apply pw_below_drewN | apply below_drew1) | exact HB.out)) hb); clear HO253; clear HO256; clear HB; have HO253 := n0_; have HO256 := n1_; have HO260 := n2_; have HB := n3_; clear n0_ n1_ n2_ n3_; (try clear hb); (try clear hb2); (try clear hk); (try clear hi); (try clear ho0)) | (go_at_call 14; (with_reducible refine (zoneinforef17_Encode.calls kj5 _ _ l1 t249 t261 _ ?side1 ?side2 A28.out).mono ?_); (case side1 => repeat (first | exact (Kd.C_below HR1.out HB.out) | (with_reducible refine Kd.C_alloc ?_ _) | (with_reducible refine Kd.C_drewN ?_ _) | (with_reducible refine Kd.C_drew ?_))); (case side2 => exact HC1.out); rintro e w60 ⟨v262, rfl, ho0, hb⟩; have n0_ := Aside0.mk (Kd.R_below (by (with_reducible repeat (first | apply Kd.R_alloc | apply Kd.R_drewN | apply Kd.R_drew)); exact HO253.out) hb); have n1_ := Aside0.mk (Kd.R_below (by (with_reducible repeat (first | apply Kd.R_alloc | apply Kd.R_drewN | apply Kd.R_drew)); exact HO256.out) hb); have n2_ := Aside0.mk (Kd.R_elder' (by (with_reducible repeat (first | apply Kd.R_alloc | apply Kd.R_drewN | apply Kd.R_drew)); exact HO260.out) (Kd.R_base ho0) hb); have n3_ := Aside0.mk (Kd.R_lower (Kd.R_new' ho0 (Kd.R_lt (by (with_reducible repeat (first | apply Kd.R_alloc | apply Kd.R_drewN | apply Kd.R_drew)); exact HO260.out))) (below_size (by repeat (first | (with_reducible first | exact HB.out | apply below_alloc | apply pw_below_drewN | apply below_drew1) | exact HB.out)))); have n4_ := Aside0.mk (below_step (by repeat (first | (with_reducible first | exact HB.out | apply below_alloc | apply pw_below_drewN | apply below_drew1) | exact HB.out)) hb); clear HO253; clear HO256; clear HO260; clear HB; have HO253 := n0_; have HO256 := n1_; have HO260 := n2_; have HO263 := n3_; have HB := n4_; clear n0_ n1_ n2_ n3_ n4_; (try clear hb); (try clear hb2); (try clear hk); (try clear hi); (try clear ho0); obtain ⟨Ao61, co61, eo61⟩ := Kd.R_slice HO260.out; subst eo61; obtain ⟨Ao62, co62, eo62⟩ := Kd.R_slice HO263.out; subst eo62) | (go_at_call 12; (with_reducible refine (zoneinforef01_Same.calls kj5 _ _ t258 _ _ t261 false _ ?side1 ?side2 ?side3 ?side4 A29.out).mono ?_); (case side1 => repeat (first | exact (Kd.R_reads' HO260.out).2.2 | (with_reducible refine Kd.C_alloc ?_ _) | (with_reducible refine Kd.C_drewN ?_ _) | (with_reducible refine Kd.C_drew ?_))); (case side2 => exact (Kd.R_reads' HO260.out).2.1); (case side3 => repeat (first | exact (Kd.R_reads' HO263.out).2.2 | (with_reducible refine Kd.C_alloc ?_ _) | (with_reducible refine Kd.C_drewN ?_ _) | (with_reducible refine Kd.C_drew ?_))); (case side4 => exact (Kd.R_reads' HO263.out).2.1); rintro e w' ⟨rfl, ⟨nd, rfl⟩⟩))
                    go_meet
                    case rel => exact ⟨_, (true), (by first | rfl | (simp; done) | (simp [*]; done)), H', ⟨by have := HJ5.out; first | omega | exact Nat.le_refl _⟩, ⟨by repeat (first | (with_reducible first | exact HB.out | apply below_alloc | apply pw_below_drewN | apply below_drew1) | exact HB.out)⟩⟩
                · replace c26 := Bool.eq_false_iff.mpr c26
                  subst c26
                  have H1 : (zoneinfolaw17_LeapsMatchReference.j1 kj5 l1 a4 true) = some r := by rw [if_neg (show ¬ (false = true) by decide)] at H; exact H
                  clear H
                  have H := H1
                  clear H1
                  have H' := Aside0.mk H
                  clear H
                  go_wp2_with (first | (go_at_call 10; (try (rw [← (show (l0.take ((ji18) : Int).toNat).length = ((ji18) : Int).toNat from by (have h_ := of_decide_eq_true (p := (ji18) ≤ (l0.length : Int)) (by assumption)); rw [List.length_take]; omega)])); (with_reducible refine (leaps_Decode.calls kj5 _ _ (l0.take ((ji18) : Int).toNat) t249 t251 _ ?side1 ?side2 A23.out).mono ?_); (case side1 => repeat (first | exact (Kd.C_below HR250.out HB.out) | (with_reducible refine Kd.C_alloc ?_ _) | (with_reducible refine Kd.C_drewN ?_ _) | (with_reducible refine Kd.C_drew ?_))); (case side2 => exact HC250.out); rintro e w63 ⟨v252, rfl, ho0, hb⟩; have n0_ := Aside0.mk (Kd.R_lower ho0 (below_size (by repeat (first | (with_reducible first | exact HB.out | apply below_alloc | apply pw_below_drewN | apply below_drew1) | exact HB.out)))); have n1_ := Aside0.mk (below_step (by repeat (first | (with_reducible first | exact HB.out | apply below_alloc | apply pw_below_drewN | apply below_drew1) | exact HB.out)) hb); clear HB; have HO253 := n0_; have HB := n1_; clear n0_ n1_; (try clear hb); (try clear hb2); (try clear hk); (try clear hi); (try clear ho0)) | (go_at_call 11; (try (rw [← (show (l0.take ((ji18) : Int).toNat).length = ((ji18) : Int).toNat from by (have h_ := of_decide_eq_true (p := (ji18) ≤ (l0.length : Int)) (by assumption)); rw [List.length_take]; omega)])); (with_reducible refine (zoneinforef17_Decode.calls kj5 _ _ (l0.take ((ji18) : Int).toNat) t249 t254 _ ?side1 ?side2 A24.out).mono ?_); (case side1 => repeat (first | exact (Kd.C_below HR250.out HB.out) | (with_reducible refine Kd.C_alloc ?_ _) | (with_reducible refine Kd.C_drewN ?_ _) | (with_reducible refine Kd.C_drew ?_))); (case side2 => exact HC250.out); rintro e w64 ⟨v255, rfl, ho0, hb⟩; have n0_ := Aside0.mk (Kd.R_elder' (by (with_reducible repeat (first | apply Kd.R_alloc | apply Kd.R_drewN | apply Kd.R_drew)); exact HO253.out) (Kd.R_base ho0) hb); have n1_ := Aside0.mk (Kd.R_lower (Kd.R_new' ho0 (Kd.R_lt (by (with_reducible repeat (first | apply Kd.R_alloc | apply Kd.R_drewN | apply Kd.R_drew)); exact HO253.out))) (below_size (by repeat (first | (with_reducible first | exact HB.out | apply below_alloc | apply pw_below_drewN | apply below_drew1) | exact HB.out)))); have n2_ := Aside0.mk (below_step (by repeat (first | (with_reducible first | exact HB.out | apply below_alloc | apply pw_below_drewN | apply below_drew1) | exact HB.out)) hb); clear HO253; clear HB; have HO253 := n0_; have HO256 := n1_; have HB := n2_; clear n0_ n1_ n2_; (try clear hb); (try clear hb2); (try clear hk); (try clear hi); (try clear ho0); obtain ⟨Ao65, co65, eo65⟩ := Kd.R_slice HO253.out; subst eo65; obtain ⟨Ao66, co66, eo66⟩ := Kd.R_slice HO256.out; subst eo66) | (go_at_call 9; (with_reducible refine (zoneinforef17_Same.calls kj5 _ _ t251 _ _ t254 false _ ?side1 ?side2 ?side3 ?side4 A25.out).mono ?_); (case side1 => repeat (first | exact (Kd.R_reads' HO253.out).2.2 | (with_reducible refine Kd.C_alloc ?_ _) | (with_reducible refine Kd.C_drewN ?_ _) | (with_reducible refine Kd.C_drew ?_))); (case side2 => exact (Kd.R_reads' HO253.out).2.1); (case side3 => repeat (first | exact (Kd.R_reads' HO256.out).2.2 | (with_reducible refine Kd.C_alloc ?_ _) | (with_reducible refine Kd.C_drewN ?_ _) | (with_reducible refine Kd.C_drew ?_))); (case side4 => exact (Kd.R_reads' HO256.out).2.1); rintro e w' ⟨rfl, ⟨nd, rfl⟩⟩))
                  go_meet
                  case rel => exact ⟨_, (true), (by first | rfl | (simp; done) | (simp [*]; done)), H', ⟨by have := HJ5.out; first | omega | exact Nat.le_refl _⟩, ⟨by repeat (first | (with_reducible first | exact HB.out | apply below_alloc | apply pw_below_drewN | apply below_drew1) | exact HB.out)⟩⟩
              case rest =>
                clear HC21
                try clear c1
                try clear c2
                try clear p2
                try clear c3
                try clear p6
                try clear c7
                try clear c8
                try clear c9
                try clear c9b0
                try clear c9b1
                try clear c13
                try clear c17
                try clear c17b0
                try clear c17b1
                try clear c19
                try clear c19b0
                try clear c19b1
                try clear c20
                try clear c20b0
                try clear c20b1
                try clear c26
                try clear c30
                try clear c33
                try clear c33b0
                try clear c33b1
                try clear c33b2
                try clear p64
                try clear p2
                obtain ⟨kq, x80_20, rfl, HA, HJ20, HB⟩ := hcut
                cases kq with
                | zero => exact absurd HA.out (by simp [zoneinfolaw17_LeapsMatchReference.j1])
                | succ kj20 =>
                  have H := HA.out
                  clear HA
                  simp only [zoneinfolaw17_LeapsMatchReference.j1] at H
                  by_cases c67 : x80_20 = true
                  · subst c67
                    have H1 : (none) = some r := by rw [if_pos rfl] at H; exact H
                    clear H
                    have H := H1
                    clear H1
                    exact absurd H (by simp)
                  · replace c67 := Bool.eq_false_iff.mpr c67
                    subst c67
                    have H1 : ((zoneinforef17_Valid.f kj20 l1 4).bind fun t269 => (if t269 = true then ((leaps_Expiry.f l1).bind fun bt270 => ((zoneinforef17_Expiry.f l1).bind fun bt272 => ((leaps_Correction.f kj20 l1 a4).bind fun t274 => ((zoneinforef17_Correction.f kj20 l1 a4).bind fun t275 => (if t274 = t275 then (if bt270.1 = bt272.1 then (some (bt270.2 == bt272.2)) else (none)) else (none)))))) else (some true))) = some r := by rw [if_neg (show ¬ (false = true) by decide)] at H; exact H
                    clear H
                    have H := H1
                    clear H1
                    replace H := Option.bind_eq_some_iff.mp H
                    obtain ⟨t269, A680, H⟩ := H
                    replace H : (if t269 = true then ((leaps_Expiry.f l1).bind fun bt270 => ((zoneinforef17_Expiry.f l1).bind fun bt272 => ((leaps_Correction.f kj20 l1 a4).bind fun t274 => ((zoneinforef17_Correction.f kj20 l1 a4).bind fun t275 => (if t274 = t275 then (if bt270.1 = bt272.1 then (some (bt270.2 == bt272.2)) else (none)) else (none)))))) else (some true)) = some r := H
                    have A68 := Aside0.mk A680
                    clear A680
                    by_cases c69 : t269 = true
                    · subst c69
                      have H1 : ((leaps_Expiry.f l1).bind fun bt270 => ((zoneinforef17_Expiry.f l1).bind fun bt272 => ((leaps_Correction.f kj20 l1 a4).bind fun t274 => ((zoneinforef17_Correction.f kj20 l1 a4).bind fun t275 => (if t274 = t275 then (if bt270.1 = bt272.1 then (some (bt270.2 == bt272.2)) else (none)) else (none)))))) = some r := by rw [if_pos rfl] at H; exact H
                      clear H
                      have H := H1
                      clear H1
                      replace H := Option.bind_eq_some_iff.mp H
                      obtain ⟨⟨t270, t271⟩, A700, H⟩ := H
                      replace H : ((zoneinforef17_Expiry.f l1).bind fun bt272 => ((leaps_Correction.f kj20 l1 a4).bind fun t274 => ((zoneinforef17_Correction.f kj20 l1 a4).bind fun t275 => (if t274 = t275 then (if t270 = bt272.1 then (some (t271 == bt272.2)) else (none)) else (none))))) = some r := H
                      have A70 := Aside0.mk A700
                      clear A700
                      replace H := Option.bind_eq_some_iff.mp H
                      obtain ⟨⟨t272, t273⟩, A710, H⟩ := H
                      replace H : ((leaps_Correction.f kj20 l1 a4).bind fun t274 => ((zoneinforef17_Correction.f kj20 l1 a4).bind fun t275 => (if t274 = t275 then (if t270 = t272 then (some (t271 == t273)) else (none)) else (none)))) = some r := H
                      have A71 := Aside0.mk A710
                      clear A710
                      replace H := Option.bind_eq_some_iff.mp H
                      obtain ⟨t274, A720, H⟩ := H
                      replace H : ((zoneinforef17_Correction.f kj20 l1 a4).bind fun t275 => (if t274 = t275 then (if t270 = t272 then (some (t271 == t273)) else (none)) else (none))) = some r := H
                      have A72 := Aside0.mk A720
                      clear A720
                      replace H := Option.bind_eq_some_iff.mp H
                      obtain ⟨t275, A730, H⟩ := H
                      replace H : (if t274 = t275 then (if t270 = t272 then (some (t271 == t273)) else (none)) else (none)) = some r := H
                      have A73 := Aside0.mk A730
                      clear A730
                      by_cases c74 : t274 = t275
                      · rw [if_pos c74] at H
                        have c74b0 : (t274 == t275) = true := beq_iff_eq.mpr c74
                        have c74b1 : (t274 != t275) = false := bne_eq_false_iff_eq.mpr c74
                        clear c74
                        by_cases c75 : t270 = t272
                        · rw [if_pos c75] at H
                          have c75b0 : (t270 == t272) = true := beq_iff_eq.mpr c75
                          have c75b1 : (t270 != t272) = false := bne_eq_false_iff_eq.mpr c75
                          clear c75
                          obtain rfl := Option.some.inj H
                          go_wp2_with (first | ((with_reducible refine gate_callee (f := 16) rfl ?_); refine goesL_ (some 82) rfl rfl Tryd.func16 (by kernel_rfl) rfl #[.slice A1 l1.length c1, .int .i64 4] rfl (by (try simp only [List.map_toArray, List.map_cons, List.map_nil]); first | done | rfl | (simp only [List.length_drop, List.length_take]; rfl)) ?_; (with_reducible refine (zoneinforef17_Valid.calls kj20 _ _ l1 4 true _ ?side1 ?side2 A68.out).mono ?_); (case side1 => repeat (first | exact (Kd.C_below HR1.out HB.out) | (with_reducible refine Kd.C_alloc ?_ _) | (with_reducible refine Kd.C_drewN ?_ _) | (with_reducible refine Kd.C_drew ?_))); (case side2 => exact HC1.out); rintro e w' ⟨rfl, ⟨nd, rfl⟩⟩; refine ⟨_, rfl, ?_⟩) | ((with_reducible refine gate_callee (f := 19) rfl ?_); refine goesL_ (some 86) rfl rfl Tryd.func19 (by kernel_rfl) rfl #[.slice A1 l1.length c1] rfl (by (try simp only [List.map_toArray, List.map_cons, List.map_nil]); first | done | rfl | (simp only [List.length_drop, List.length_take]; rfl)) ?_; (with_reducible refine (leaps_Expiry.calls _ _ l1 t270 t271 _ ?side1 ?side2 A70.out).mono ?_); (case side1 => repeat (first | exact (Kd.C_below HR1.out (by repeat (first | (with_reducible first | exact HB.out | apply below_alloc | apply pw_below_drewN | apply below_drew1) | exact HB.out))) | (with_reducible refine Kd.C_alloc ?_ _) | (with_reducible refine Kd.C_drewN ?_ _) | (with_reducible refine Kd.C_drew ?_))); (case side2 => exact HC1.out); rintro e w' ⟨rfl, ⟨nd, rfl⟩⟩; refine ⟨_, rfl, ?_⟩) | ((with_reducible refine gate_callee (f := 20) rfl ?_); refine goesL_ (some 91) rfl rfl Tryd.func20 (by kernel_rfl) rfl #[.slice A1 l1.length c1] rfl (by (try simp only [List.map_toArray, List.map_cons, List.map_nil]); first | done | rfl | (simp only [List.length_drop, List.length_take]; rfl)) ?_; (with_reducible refine (zoneinforef17_Expiry.calls _ _ l1 t272 t273 _ ?side1 ?side2 A71.out).mono ?_); (case side1 => repeat (first | exact (Kd.C_below HR1.out (by repeat (first | (with_reducible first | exact HB.out | apply below_alloc | apply pw_below_drewN | apply below_drew1) | exact HB.out))) | (with_reducible refine Kd.C_alloc ?_ _) | (with_reducible refine Kd.C_drewN ?_ _) | (with_reducible refine Kd.C_drew ?_))); (case side2 => exact HC1.out); rintro e w' ⟨rfl, ⟨nd, rfl⟩⟩; refine ⟨_, rfl, ?_⟩) | (go_at_call 21; (with_reducible refine (leaps_Correction.calls kj20 _ _ l1 a4 t274 _ ?side1 ?side2 A72.out).mono ?_); (case side1 => repeat (first | exact (Kd.C_below HR1.out (by repeat (first | (with_reducible first | exact HB.out | apply below_alloc | apply pw_below_drewN | apply below_drew1) | exact HB.out))) | (with_reducible refine Kd.C_alloc ?_ _) | (with_reducible refine Kd.C_drewN ?_ _) | (with_reducible refine Kd.C_drew ?_))); (case side2 => exact HC1.out); rintro e w76 ⟨rfl, hb⟩; have n0_ := Aside0.mk (below_step (by repeat (first | (with_reducible first | exact HB.out | apply below_alloc | apply pw_below_drewN | apply below_drew1) | exact HB.out)) hb); clear HB; have HB := n0_; clear n0_; (try clear hb); (try clear hb2); (try clear hk); (try clear hi)) | (go_at_call 22; (with_reducible refine (zoneinforef17_Correction.calls kj20 _ _ l1 a4 t275 _ ?side1 ?side2 A73.out).mono ?_); (case side1 => repeat (first | exact (Kd.C_below HR1.out HB.out) | (with_reducible refine Kd.C_alloc ?_ _) | (with_reducible refine Kd.C_drewN ?_ _) | (with_reducible refine Kd.C_drew ?_))); (case side2 => exact HC1.out); rintro e w' ⟨rfl, ⟨nd, rfl⟩⟩))
                          go_ret
                          exact ⟨by first | rfl | (simp [errW_none, errW_some] <;> rfl) | (simp only [← hji18]; first | rfl | (simp [errW_none, errW_some] <;> rfl)) | (simp [*, errW_none, errW_some] <;> rfl), by repeat (first | (with_reducible first | exact HB.out | apply below_alloc | apply pw_below_drewN | apply below_drew1) | exact HB.out)⟩
                        · rw [if_neg c75] at H
                          exact absurd H (by simp)
                      · rw [if_neg c74] at H
                        exact absurd H (by simp)
                    · replace c69 := Bool.eq_false_iff.mpr c69
                      subst c69
                      have H1 : (some true) = some r := by rw [if_neg (show ¬ (false = true) by decide)] at H; exact H
                      clear H
                      have H := H1
                      clear H1
                      obtain rfl := Option.some.inj H
                      go_wp2_with (first | ((with_reducible refine gate_callee (f := 16) rfl ?_); refine goesL_ (some 82) rfl rfl Tryd.func16 (by kernel_rfl) rfl #[.slice A1 l1.length c1, .int .i64 4] rfl (by (try simp only [List.map_toArray, List.map_cons, List.map_nil]); first | done | rfl | (simp only [List.length_drop, List.length_take]; rfl)) ?_; (with_reducible refine (zoneinforef17_Valid.calls kj20 _ _ l1 4 false _ ?side1 ?side2 A68.out).mono ?_); (case side1 => repeat (first | exact (Kd.C_below HR1.out HB.out) | (with_reducible refine Kd.C_alloc ?_ _) | (with_reducible refine Kd.C_drewN ?_ _) | (with_reducible refine Kd.C_drew ?_))); (case side2 => exact HC1.out); rintro e w' ⟨rfl, ⟨nd, rfl⟩⟩; refine ⟨_, rfl, ?_⟩))
                      go_ret
                      exact ⟨by first | rfl | (simp [errW_none, errW_some] <;> rfl) | (simp only [← hji18]; first | rfl | (simp [errW_none, errW_some] <;> rfl)) | (simp [*, errW_none, errW_some] <;> rfl), by repeat (first | (with_reducible first | exact HB.out | apply below_alloc | apply pw_below_drewN | apply below_drew1) | exact HB.out)⟩
            · rw [if_neg c20] at H
              exact absurd H (by simp)
          · rw [if_neg c19] at H
            exact absurd H (by simp)

/-! ### zoneinforef01_Fits: function 23 -/
def zoneinforef01_Fits.f (k : Nat) (a0 : Int) (a1 : Int) : Option (Bool) := if a1 = 8 then (some true) else ((zoneinforef01_half.f k a1).bind fun t276 => (if a0 ≥ (wrap64 (-(wrap64 (t276)))) then (some (decide (a0 < (wrap64 (t276))))) else (some false)))
theorem zoneinforef01_Fits.mono : ∀ a0 a1 k, LeO (zoneinforef01_Fits.f k a0 a1) (zoneinforef01_Fits.f (k + 1) a0 a1) := by
  intro a0 a1 k
  unfold zoneinforef01_Fits.f
  repeat' first
      | (with_reducible exact zoneinforef01_half.mono _ _)
      | (with_reducible exact LeO.refl _)
      | (with_reducible exact LeO.none _)
      | (with_reducible refine LeO.ite ?_ ?_)
      | (with_reducible refine LeO.bind ?_ (fun _ => ?_))
      | exact zoneinforef01_half.mono _ _
      | exact LeO.none _
      | refine LeO.ite ?_ ?_
      | refine LeO.bind ?_ (fun _ => ?_)
set_option maxHeartbeats 8000000 in
set_option maxRecDepth 100000 in
theorem zoneinforef01_Fits.calls (k : Nat) (a0 : Int) (a1 : Int) (r : Bool) (w : World) (h : zoneinforef01_Fits.f k a0 a1 = some r) :
    Calls Tryd.prog 23 #[.int .i64 a0, .int .i64 a1] w fun e w' => e = .returned (.bool r) ∧ Drawn0 w w' := by
  have H : (if a1 = 8 then (some true) else ((zoneinforef01_half.f k a1).bind fun t276 => (if a0 ≥ (wrap64 (-(wrap64 (t276)))) then (some (decide (a0 < (wrap64 (t276))))) else (some false)))) = some r := h
  clear h
  by_cases c3 : a1 = 8
  · rw [if_pos c3] at H
    have c3b0 : (a1 == 8) = true := beq_iff_eq.mpr c3
    have c3b1 : (a1 != 8) = false := bne_eq_false_iff_eq.mpr c3
    clear c3
    obtain rfl := Option.some.inj H
    go_enter Tryd.func23, Tryd.ntmps23
    go_wp2
    go_ret
    exact ⟨by first | rfl | (simp; done) | (simp [*]; done), by repeat (first | exact Drawn0.refl _ | apply Drawn0.step)⟩
  · rw [if_neg c3] at H
    have c3b0 : (a1 == 8) = false := beq_eq_false_iff_ne.mpr c3
    have c3b1 : (a1 != 8) = true := bne_iff_ne.mpr c3
    replace H := Option.bind_eq_some_iff.mp H
    obtain ⟨t276, A40, H⟩ := H
    replace H : (if a0 ≥ (wrap64 (-(wrap64 (t276)))) then (some (decide (a0 < (wrap64 (t276))))) else (some false)) = some r := H
    have A4 := Aside0.mk A40
    clear A40
    by_cases c5 : a0 ≥ (wrap64 (-(wrap64 (t276))))
    · rw [if_pos c5] at H
      have c5b0 : decide ((wrap64 (-(wrap64 (t276)))) ≤ a0) = true := decide_eq_true c5
      clear c5
      obtain rfl := Option.some.inj H
      go_enter Tryd.func23, Tryd.ntmps23
      go_wp2_with (first | ((with_reducible refine gate_callee (f := 29) rfl ?_); refine goesL_ (some 9) rfl rfl Tryd.func29 (by kernel_rfl) rfl #[.int .i64 a1] rfl (by (try simp only [List.map_toArray, List.map_cons, List.map_nil]); first | done | rfl | (simp only [List.length_drop, List.length_take]; rfl)) ?_; (with_reducible refine (zoneinforef01_half.calls k a1 t276 _ A4.out).mono ?_); rintro e w' ⟨rfl, ⟨nd, rfl⟩⟩; refine ⟨_, rfl, ?_⟩))
      go_ret
      exact ⟨by first | rfl | (simp; done) | (simp [*]; done), by repeat (first | exact Drawn0.refl _ | apply Drawn0.step)⟩
    · rw [if_neg c5] at H
      have c5b0 : decide ((wrap64 (-(wrap64 (t276)))) ≤ a0) = false := decide_eq_false c5
      clear c5
      obtain rfl := Option.some.inj H
      go_enter Tryd.func23, Tryd.ntmps23
      go_wp2_with (first | ((with_reducible refine gate_callee (f := 29) rfl ?_); refine goesL_ (some 9) rfl rfl Tryd.func29 (by kernel_rfl) rfl #[.int .i64 a1] rfl (by (try simp only [List.map_toArray, List.map_cons, List.map_nil]); first | done | rfl | (simp only [List.length_drop, List.length_take]; rfl)) ?_; (with_reducible refine (zoneinforef01_half.calls k a1 t276 _ A4.out).mono ?_); rintro e w' ⟨rfl, ⟨nd, rfl⟩⟩; refine ⟨_, rfl, ?_⟩))
      go_ret
      exact ⟨by first | rfl | (simp; done) | (simp [*]; done), by repeat (first | exact Drawn0.refl _ | apply Drawn0.step)⟩

end Go.Proofs.YtiaobffdggeofaaDoor.G
