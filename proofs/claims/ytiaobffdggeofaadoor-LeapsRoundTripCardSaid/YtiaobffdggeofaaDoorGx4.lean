/- Written by a program of this session for this seat: contracts of the functions that its laws reach, or the row of a law over its plain part. -/
import Derived.Test.YtiaobffdggeofaaDoorGx0
import Derived.Test.YtiaobffdggeofaaDoorGx2
namespace Go.Proofs.YtiaobffdggeofaaDoor.G
open Go.RowKit Go.Proofs.YtiaobffdggeofaaDoorW.PrintWords Go.Proofs.YtiaobffdggeofaaDoorW.PrintLast Go.Proofs.YtiaobffdggeofaaDoorW.PrintMore
attribute [local go_sem] max2_int min2_int max_two min_two max_three min_three max_four min_four   -- for this text's walks alone
set_option linter.unusedVariables false
set_option linter.unusedSimpArgs false

/-! ### leaps_Valid: function 15 -/
def ruleFn (n : Nat) : Value := .func (.func n) #[] #[]
def kRule : Kd (ByteArray × Nat) := Kd.pair Kd.string (Kd.scalar ruleFn (fun _ => rfl))
def glens : List (List (ByteArray × Nat)) := [[(⟨#[116, 105, 109, 101]⟩, 48), (⟨#[102, 105, 114, 115, 116, 32, 99, 111, 114, 114, 101, 99, 116, 105, 111, 110]⟩, 49), (⟨#[115, 116, 101, 112]⟩, 50)]]
/-- The table of the rules, as the row lists it. -/
abbrev GL (w : World) : Prop := Kd.C (Kd.slice 48 kRule) w (some ⟨0, 0, none⟩) glens.length glens
theorem gl_cells {w : World} (h : GL w) : ∃ b off c : Nat, ∃ s0 s1 s2 : ByteArray, w.cell? ⟨0, 0, none⟩ = some (.slice (some ⟨b, off, none⟩) 3 c) ∧
    w.cell? ⟨b, off, none⟩ = some (.string s0) ∧ w.cell? ⟨b, off + 1, none⟩ = some (.func (.func 48) #[] #[]) ∧
    w.cell? ⟨b, off + 2, none⟩ = some (.string s1) ∧ w.cell? ⟨b, off + 2 + 1, none⟩ = some (.func (.func 49) #[] #[]) ∧
    w.cell? ⟨b, off + 4, none⟩ = some (.string s2) ∧ w.cell? ⟨b, off + 4 + 1, none⟩ = some (.func (.func 50) #[] #[]) := by
  obtain ⟨ad, cs, e, _, hk, hc⟩ := Kd.C_get h [] 0 (by decide) (by decide)
  cases e
  obtain ⟨A, c, rfl, _, hr⟩ := hk
  have h0 := hc 0 _ rfl
  have hlen : (glens.getD (0 : Int).toNat []).length = 3 := rfl
  rw [hlen] at h0 hr
  replace h0 : w.cell? ⟨0, 0, none⟩ = some (.slice A 3 c) := h0
  obtain ⟨a0, c0, e0, _, ⟨x0, y0, rfl, hx0, hy0⟩, d0⟩ := Kd.C_get hr (⟨#[]⟩, 0) 0 (by decide) (by decide)
  obtain ⟨a1, c1, e1, _, ⟨x1, y1, rfl, hx1, hy1⟩, d1⟩ := Kd.C_get hr (⟨#[]⟩, 0) 1 (by decide) (by decide)
  obtain ⟨a2, c2, e2, _, ⟨x2, y2, rfl, hx2, hy2⟩, d2⟩ := Kd.C_get hr (⟨#[]⟩, 0) 2 (by decide) (by decide)
  cases e0; cases e1; cases e2
  have hx0' : x0 = [.string ⟨#[116, 105, 109, 101]⟩] := hx0
  have hy0' : y0 = [ruleFn 48] := hy0
  have hx1' : x1 = [.string ⟨#[102, 105, 114, 115, 116, 32, 99, 111, 114, 114, 101, 99, 116, 105, 111, 110]⟩] := hx1
  have hy1' : y1 = [ruleFn 49] := hy1
  have hx2' : x2 = [.string ⟨#[115, 116, 101, 112]⟩] := hx2
  have hy2' : y2 = [ruleFn 50] := hy2
  subst hx0' hy0' hx1' hy1' hx2' hy2'
  have p0 := d0 0 _ rfl
  have p1 := d0 1 _ rfl
  have p2 := d1 0 _ rfl
  have p3 := d1 1 _ rfl
  have p4 := d2 0 _ rfl
  have p5 := d2 1 _ rfl
  obtain ⟨b, off, spot⟩ := a0
  have hspot : spot = none := by simpa [Addr.add] using World.cell?_spot p0
  subst hspot
  exact ⟨b, off, c, _, _, _, h0, p0, p1, p2, p3, p4, p5⟩
theorem valid_drewN {B : Nat} {a w : World} (h : Below B a w) (n : Nat) : Below B a (w.drewN n) := ⟨h.os, h.tape, h.output, h.size, h.block⟩
/-- The three rules at a record. -/
def valOk (l0 : List (S38)) (v i : Int) : Bool := (leaps_rules_1.f l0 i v == some true) && ((leaps_rules_2.f l0 i v == some true) && (leaps_rules_3.f l0 i v == some true))
def leaps_Valid.f (l0 : List (S38)) (a1 : Int) : Option (Bool) := some ((List.range l0.length).all fun i => valOk l0 a1 (i : Int))
theorem rule1_some (l0 : List (S38)) (v : Int) (k : Nat) (h : k < l0.length) (hm : l0.length ≤ 9223372036854775807) : ∃ b, leaps_rules_1.f l0 (k : Int) v = some b := by
  unfold leaps_rules_1.f
  by_cases hk : k = 0
  · subst hk
    rw [if_pos (by rfl), if_pos (by omega)]
    exact ⟨_, rfl⟩
  · have e : wrap64 ((k : Int) - 1) = (k : Int) - 1 := by unfold wrap64; omega
    rw [if_neg (by omega), if_pos (by omega), if_pos (by omega), e, if_pos (by omega), if_pos (by omega)]
    split <;> exact ⟨_, rfl⟩
theorem rule2_some (l0 : List (S38)) (v : Int) (k : Nat) (h : k < l0.length) : ∃ b, leaps_rules_2.f l0 (k : Int) v = some b := by
  unfold leaps_rules_2.f
  split
  · exact ⟨_, rfl⟩
  · split
    · exact ⟨_, rfl⟩
    · rw [if_pos (by omega)]
      split <;> exact ⟨_, rfl⟩
theorem rule3_some (l0 : List (S38)) (v : Int) (k : Nat) (h : k < l0.length) (hm : l0.length ≤ 9223372036854775807) : ∃ b, leaps_rules_3.f l0 (k : Int) v = some b := by
  unfold leaps_rules_3.f
  split
  · exact ⟨_, rfl⟩
  · have e : wrap64 ((k : Int) - 1) = (k : Int) - 1 := by unfold wrap64; omega
    unfold leaps_step.f
    rw [if_pos (by omega), if_pos (by omega), e, if_pos (by omega), if_pos (by omega)]
    simp only [Option.bind_some]
    split
    · exact ⟨_, rfl⟩
    · split
      · exact ⟨_, rfl⟩
      · split
        · split <;> exact ⟨_, rfl⟩
        · exact ⟨_, rfl⟩
theorem valOk_no1 {l0 : List (S38)} {v i : Int} (h : leaps_rules_1.f l0 i v = some false) : valOk l0 v i = false := by unfold valOk; rw [h]; rfl
theorem valOk_no2 {l0 : List (S38)} {v i : Int} (h : leaps_rules_2.f l0 i v = some false) : valOk l0 v i = false := by unfold valOk; rw [h]; simp
theorem valOk_no3 {l0 : List (S38)} {v i : Int} (h : leaps_rules_3.f l0 i v = some false) : valOk l0 v i = false := by unfold valOk; rw [h]; simp
theorem valOk_yes {l0 : List (S38)} {v i : Int} (h1 : leaps_rules_1.f l0 i v = some true) (h2 : leaps_rules_2.f l0 i v = some true) (h3 : leaps_rules_3.f l0 i v = some true) : valOk l0 v i = true := by unfold valOk; rw [h1, h2, h3]; rfl
theorem all_no {n k : Nat} {p : Nat → Bool} (hk : k < n) (h : p k = false) : (List.range n).all p = false := List.all_eq_false.2 ⟨k, List.mem_range.2 hk, by rw [h]; decide⟩
theorem all_yes {n : Nat} {p : Nat → Bool} (h : ∀ k, k < n → p k = true) : (List.range n).all p = true := List.all_eq_true.2 fun k hk => h k (List.mem_range.1 hk)
set_option maxRecDepth 100000 in
set_option maxHeartbeats 8000000 in
theorem leaps_Valid.calls (A0 : Option Addr) (c0 : Nat) (l0 : List (S38)) (a1 : Int) (r : Bool) (w : World) (hr0 : Kd.C k38 w A0 l0.length l0) (hc0 : l0.length ≤ c0) (hrg : GL w) (h : leaps_Valid.f l0 a1 = some r) :
    Calls Tryd.prog 15 #[.slice A0 l0.length c0, .int .i64 a1] w fun e w' => e = .returned (.bool r) ∧ Below w.heap.size w w' := by
  have HRE := Aside0.mk (Option.some.inj h)
  clear h
  obtain ⟨b, off, cp, s0, s1, s2, g0, x0, y0, x1, y1, x2, y2⟩ := gl_cells hrg
  have hmax : l0.length ≤ 9223372036854775807 := hr0.2.1
  have hbl := World.block_lt_of_cell? _ _ x0
  have hb0 := World.block_lt_of_cell? _ _ g0
  have HR := Aside0.mk hr0
  have HC := Aside0.mk hc0
  have G0 := Aside0.mk g0
  have X0 := Aside0.mk x0
  have Y0 := Aside0.mk y0
  have X1 := Aside0.mk x1
  have Y1 := Aside0.mk y1
  have X2 := Aside0.mk x2
  have Y2 := Aside0.mk y2
  clear hr0 hc0 g0 x0 y0 x1 y1 x2 y2 hrg
  go_enter Tryd.func15, Tryd.ntmps15
  go_wp2
  go_loopw [10] (fun i wr => ∃ k : Nat, k ≤ l0.length ∧ i = .int .i64 (k : Int) ∧ Aside0 (∀ j, j < k → valOk l0 a1 (j : Int) = true) ∧ Below w.heap.size w wr) (fun i _ => l0.length - (intOf i).toNat)
  case atStart => exact ⟨0, Nat.zero_le _, rfl, ⟨fun j hj => by omega⟩, Below.refl _ _⟩
  case round =>
    obtain ⟨k, hk, rfl, HV, hB⟩ := hrel
    by_cases hlt : k < l0.length
    · have g0' := (hB.cell (p := ⟨0, 0, none⟩) hb0).trans G0.out
      go_wp2
      clear g0'
      obtain ⟨wo, hwo⟩ : ∃ wo : World, wo = wr := ⟨_, rfl⟩
      subst hwo
      go_loopw [15] (fun t wr => ∃ j : Nat, j ≤ 3 ∧ t = .int .i64 (j : Int) ∧ Aside0 ((0 < j → leaps_rules_1.f l0 (k : Int) a1 = some true) ∧ (1 < j → leaps_rules_2.f l0 (k : Int) a1 = some true) ∧ (2 < j → leaps_rules_3.f l0 (k : Int) a1 = some true)) ∧ Below w.heap.size w wr) (fun t _ => 3 - (intOf t).toNat)
      case atStart => exact ⟨0, by omega, rfl, ⟨fun h => by omega, fun h => by omega, fun h => by omega⟩, hB⟩
      case round =>
        obtain ⟨j, hj, rfl, HJ, hBj⟩ := hrel
        have hsz := hBj.size
        have hj4 : j = 0 ∨ j = 1 ∨ j = 2 ∨ j = 3 := by omega
        rcases hj4 with rfl | rfl | rfl | rfl
        · have x := (hBj.cell (p := ⟨b, off, none⟩) hbl).trans X0.out
          have y := (hBj.cell (p := ⟨b, off + 1, none⟩) hbl).trans Y0.out
          obtain ⟨bb, hbb⟩ := rule1_some l0 a1 k hlt hmax
          have HBB := Aside0.mk hbb
          clear hbb
          cases bb
          · go_wp2_with (go_at_call 48; ((with_reducible refine (leaps_rules_1.calls A0 c0 l0 _ a1 false _ (Kd.C_below HR.out (hBj.alloc hsz _)) HC.out HBB.out).mono ?_); rintro e w' ⟨rfl, ⟨nd, rfl⟩⟩))
            obtain rfl : false = r := (all_no hlt (valOk_no1 HBB.out)).symm.trans HRE.out
            go_ret
            exact ⟨rfl, valid_drewN (hBj.alloc hsz _) _⟩
          · go_wp2_with (go_at_call 48; ((with_reducible refine (leaps_rules_1.calls A0 c0 l0 _ a1 true _ (Kd.C_below HR.out (hBj.alloc hsz _)) HC.out HBB.out).mono ?_); rintro e w' ⟨rfl, ⟨nd, rfl⟩⟩))
            go_roundw
            case rel => exact ⟨1, by omega, by go_num, ⟨fun _ => HBB.out, fun h => by omega, fun h => by omega⟩, valid_drewN (hBj.alloc hsz _) _⟩
            case measure => simp [intOf]
        · have x := (hBj.cell (p := ⟨b, off + 2, none⟩) hbl).trans X1.out
          have y := (hBj.cell (p := ⟨b, off + 2 + 1, none⟩) hbl).trans Y1.out
          obtain ⟨bb, hbb⟩ := rule2_some l0 a1 k hlt
          have HBB := Aside0.mk hbb
          clear hbb
          cases bb
          · go_wp2_with (go_at_call 49; ((with_reducible refine (leaps_rules_2.calls A0 c0 l0 _ a1 false _ (Kd.C_below HR.out (hBj.alloc hsz _)) HC.out HBB.out).mono ?_); rintro e w' ⟨rfl, ⟨nd, rfl⟩⟩))
            obtain rfl : false = r := (all_no hlt (valOk_no2 HBB.out)).symm.trans HRE.out
            go_ret
            exact ⟨rfl, valid_drewN (hBj.alloc hsz _) _⟩
          · go_wp2_with (go_at_call 49; ((with_reducible refine (leaps_rules_2.calls A0 c0 l0 _ a1 true _ (Kd.C_below HR.out (hBj.alloc hsz _)) HC.out HBB.out).mono ?_); rintro e w' ⟨rfl, ⟨nd, rfl⟩⟩))
            go_roundw
            case rel => exact ⟨2, by omega, by go_num, ⟨fun _ => HJ.out.1 (by omega), fun _ => HBB.out, fun h => by omega⟩, valid_drewN (hBj.alloc hsz _) _⟩
            case measure => simp [intOf]
        · have x := (hBj.cell (p := ⟨b, off + 4, none⟩) hbl).trans X2.out
          have y := (hBj.cell (p := ⟨b, off + 4 + 1, none⟩) hbl).trans Y2.out
          obtain ⟨bb, hbb⟩ := rule3_some l0 a1 k hlt hmax
          have HBB := Aside0.mk hbb
          clear hbb
          cases bb
          · go_wp2_with (go_at_call 50; ((with_reducible refine (leaps_rules_3.calls A0 c0 l0 _ a1 false _ (Kd.C_below HR.out (hBj.alloc hsz _)) HC.out HBB.out).mono ?_); rintro e w' ⟨rfl, ⟨nd, rfl⟩⟩))
            obtain rfl : false = r := (all_no hlt (valOk_no3 HBB.out)).symm.trans HRE.out
            go_ret
            exact ⟨rfl, valid_drewN (hBj.alloc hsz _) _⟩
          · go_wp2_with (go_at_call 50; ((with_reducible refine (leaps_rules_3.calls A0 c0 l0 _ a1 true _ (Kd.C_below HR.out (hBj.alloc hsz _)) HC.out HBB.out).mono ?_); rintro e w' ⟨rfl, ⟨nd, rfl⟩⟩))
            go_roundw
            case rel => exact ⟨3, by omega, by go_num, ⟨fun _ => HJ.out.1 (by omega), fun _ => HJ.out.2.1 (by omega), fun _ => HBB.out⟩, valid_drewN (hBj.alloc hsz _) _⟩
            case measure => simp [intOf]
        · go_wp2
          go_roundw
          case rel => exact ⟨k + 1, by omega, by go_num, ⟨fun j hj => (Nat.lt_succ_iff_lt_or_eq.1 hj).elim (HV.out j) (fun e => by subst e; exact valOk_yes (HJ.out.1 (by omega)) (HJ.out.2.1 (by omega)) (HJ.out.2.2 (by omega)))⟩, hBj⟩
          case measure => simp [intOf]; omega
    · obtain rfl : true = r := (all_yes fun j hj => HV.out j (by omega)).symm.trans HRE.out
      go_wp2
      go_ret
      exact ⟨rfl, hB⟩

/-! ### leaps_NeedsV4: function 17 -/
def leaps_NeedsV4.f (l0 : List (S38)) : Option (Bool) := (leaps_Valid.f l0 4).bind fun t140 => (if t140 = true then ((leaps_Valid.f l0 3).bind fun t141 => (some (!t141))) else (some false))
set_option maxHeartbeats 8000000 in
set_option maxRecDepth 100000 in
theorem leaps_NeedsV4.calls (A0 : Option Addr) (c0 : Nat) (l0 : List (S38)) (r : Bool) (w : World) (hr0 : Kd.C k38 w A0 l0.length l0) (hc0 : l0.length ≤ c0) (hrg : GL w) (h : leaps_NeedsV4.f l0 = some r) :
    Calls Tryd.prog 17 #[.slice A0 l0.length c0] w fun e w' => e = .returned (.bool r) ∧ Below w.heap.size w w' := by
  have HRg := Aside0.mk hrg
  clear hrg
  have HR0 := Aside0.mk hr0
  have HC0 := Aside0.mk hc0
  clear hr0 hc0
  have HB := Aside0.mk (Below.refl w.heap.size w)
  have H : ((leaps_Valid.f l0 4).bind fun t140 => (if t140 = true then ((leaps_Valid.f l0 3).bind fun t141 => (some (!t141))) else (some false))) = some r := h
  clear h
  replace H := Option.bind_eq_some_iff.mp H
  obtain ⟨t140, A20, H⟩ := H
  replace H : (if t140 = true then ((leaps_Valid.f l0 3).bind fun t141 => (some (!t141))) else (some false)) = some r := H
  have A2 := Aside0.mk A20
  clear A20
  by_cases c3 : t140 = true
  · subst c3
    have H1 : ((leaps_Valid.f l0 3).bind fun t141 => (some (!t141))) = some r := by rw [if_pos rfl] at H; exact H
    clear H
    have H := H1
    clear H1
    replace H := Option.bind_eq_some_iff.mp H
    obtain ⟨t141, A40, H⟩ := H
    replace H : (some (!t141)) = some r := H
    have A4 := Aside0.mk A40
    clear A40
    obtain rfl := Option.some.inj H
    go_enter Tryd.func17, Tryd.ntmps17
    go_wp2_with (first | (go_at_call 15; (with_reducible refine (leaps_Valid.calls _ _ l0 4 true _ ?side1 ?side2 ?side3 A2.out).mono ?_); (case side1 => repeat (first | exact HR0.out | (with_reducible refine Kd.C_alloc ?_ _) | (with_reducible refine Kd.C_drewN ?_ _) | (with_reducible refine Kd.C_drew ?_))); (case side2 => exact HC0.out); (case side3 => repeat (first | exact HRg.out | (with_reducible refine Kd.C_alloc ?_ _) | (with_reducible refine Kd.C_drewN ?_ _) | (with_reducible refine Kd.C_drew ?_))); rintro e w5 ⟨rfl, hb⟩; have n0_ := Aside0.mk (below_step (by repeat (first | (with_reducible first | exact HB.out | apply below_alloc | apply pw_below_drewN | apply below_drew1) | exact HB.out)) hb); clear HB; have HB := n0_; clear n0_; (try clear hb); (try clear hb2); (try clear hk); (try clear hi)) | (go_at_call 15; (with_reducible refine (leaps_Valid.calls _ _ l0 3 t141 _ ?side1 ?side2 ?side3 A4.out).mono ?_); (case side1 => repeat (first | exact (Kd.C_below HR0.out HB.out) | (with_reducible refine Kd.C_alloc ?_ _) | (with_reducible refine Kd.C_drewN ?_ _) | (with_reducible refine Kd.C_drew ?_))); (case side2 => exact HC0.out); (case side3 => repeat (first | exact (Kd.C_below HRg.out HB.out) | (with_reducible refine Kd.C_alloc ?_ _) | (with_reducible refine Kd.C_drewN ?_ _) | (with_reducible refine Kd.C_drew ?_))); rintro e w6 ⟨rfl, hb⟩; have n0_ := Aside0.mk (below_step (by repeat (first | (with_reducible first | exact HB.out | apply below_alloc | apply pw_below_drewN | apply below_drew1) | exact HB.out)) hb); clear HB; have HB := n0_; clear n0_; (try clear hb); (try clear hb2); (try clear hk); (try clear hi)))
    go_ret
    exact ⟨by first | rfl | (simp [errW_none, errW_some] <;> rfl) | (simp [*, errW_none, errW_some] <;> rfl), by repeat (first | (with_reducible first | exact HB.out | apply below_alloc | apply pw_below_drewN | apply below_drew1) | exact HB.out)⟩
  · replace c3 := Bool.eq_false_iff.mpr c3
    subst c3
    have H1 : (some false) = some r := by rw [if_neg (show ¬ (false = true) by decide)] at H; exact H
    clear H
    have H := H1
    clear H1
    obtain rfl := Option.some.inj H
    go_enter Tryd.func17, Tryd.ntmps17
    go_wp2_with (first | (go_at_call 15; (with_reducible refine (leaps_Valid.calls _ _ l0 4 false _ ?side1 ?side2 ?side3 A2.out).mono ?_); (case side1 => repeat (first | exact HR0.out | (with_reducible refine Kd.C_alloc ?_ _) | (with_reducible refine Kd.C_drewN ?_ _) | (with_reducible refine Kd.C_drew ?_))); (case side2 => exact HC0.out); (case side3 => repeat (first | exact HRg.out | (with_reducible refine Kd.C_alloc ?_ _) | (with_reducible refine Kd.C_drewN ?_ _) | (with_reducible refine Kd.C_drew ?_))); rintro e w7 ⟨rfl, hb⟩; have n0_ := Aside0.mk (below_step (by repeat (first | (with_reducible first | exact HB.out | apply below_alloc | apply pw_below_drewN | apply below_drew1) | exact HB.out)) hb); clear HB; have HB := n0_; clear n0_; (try clear hb); (try clear hb2); (try clear hk); (try clear hi)))
    go_ret
    exact ⟨by first | rfl | (simp [errW_none, errW_some] <;> rfl) | (simp [*, errW_none, errW_some] <;> rfl), by repeat (first | (with_reducible first | exact HB.out | apply below_alloc | apply pw_below_drewN | apply below_drew1) | exact HB.out)⟩

/-! ### leaps_Expiry: function 19 -/
def leaps_Expiry.f (l0 : List (S38)) : Option (Int × Bool) := if (l0.length : Int) < 2 then (some (0, false)) else ((leaps_step.f l0 (wrap64 ((l0.length : Int) - 1))).bind fun t142 => (if t142 = 0 then (if 0 ≤ (wrap64 ((l0.length : Int) - 1)) then (if (wrap64 ((l0.length : Int) - 1)) < (l0.length : Int) then (some ((rd_T38 l0 (wrap64 ((l0.length : Int) - 1))).f0, true)) else (none)) else (none)) else (some (0, false))))
set_option maxHeartbeats 8000000 in
set_option maxRecDepth 100000 in
theorem leaps_Expiry.calls (A0 : Option Addr) (c0 : Nat) (l0 : List (S38)) (r1 : Int) (r2 : Bool) (w : World) (hr0 : Kd.C k38 w A0 l0.length l0) (hc0 : l0.length ≤ c0) (h : leaps_Expiry.f l0 = some (r1, r2)) :
    Calls Tryd.prog 19 #[.slice A0 l0.length c0] w fun e w' => e = .returned (.tuple #[.int .i64 r1, .bool r2]) ∧ Drawn0 w w' := by
  have HR0 := Aside0.mk hr0
  have HC0 := Aside0.mk hc0
  clear hr0 hc0
  have H : (if (l0.length : Int) < 2 then (some (0, false)) else ((leaps_step.f l0 (wrap64 ((l0.length : Int) - 1))).bind fun t142 => (if t142 = 0 then (if 0 ≤ (wrap64 ((l0.length : Int) - 1)) then (if (wrap64 ((l0.length : Int) - 1)) < (l0.length : Int) then (some ((rd_T38 l0 (wrap64 ((l0.length : Int) - 1))).f0, true)) else (none)) else (none)) else (some (0, false))))) = some (r1, r2) := h
  clear h
  by_cases c2 : (l0.length : Int) < 2
  · rw [if_pos c2] at H
    have c2b0 : decide ((l0.length : Int) < 2) = true := decide_eq_true c2
    have c2b1 : decide (l0.length < 2) = true := decide_eq_true (by omega)
    clear c2
    simp only [Option.some.injEq, Prod.mk.injEq] at H
    obtain ⟨rfl, rfl⟩ := H
    go_enter Tryd.func19, Tryd.ntmps19
    go_wp2
    go_ret2
    exact ⟨by first | rfl | (simp; done) | (simp [*]; done), by repeat (first | exact Drawn0.refl _ | apply Drawn0.step)⟩
  · rw [if_neg c2] at H
    have c2b0 : decide ((l0.length : Int) < 2) = false := decide_eq_false c2
    have c2b1 : decide (l0.length < 2) = false := decide_eq_false (by omega)
    clear c2
    replace H := Option.bind_eq_some_iff.mp H
    obtain ⟨t142, A30, H⟩ := H
    replace H : (if t142 = 0 then (if 0 ≤ (wrap64 ((l0.length : Int) - 1)) then (if (wrap64 ((l0.length : Int) - 1)) < (l0.length : Int) then (some ((rd_T38 l0 (wrap64 ((l0.length : Int) - 1))).f0, true)) else (none)) else (none)) else (some (0, false))) = some (r1, r2) := H
    have A3 := Aside0.mk A30
    clear A30
    by_cases c4 : t142 = 0
    · rw [if_pos c4] at H
      have c4b0 : (t142 == 0) = true := beq_iff_eq.mpr c4
      have c4b1 : (t142 != 0) = false := bne_eq_false_iff_eq.mpr c4
      clear c4
      obtain ⟨ji5, hji5⟩ : ∃ j_ : Int, (wrap64 ((l0.length : Int) - 1)) = j_ := ⟨_, rfl⟩
      replace H : (if 0 ≤ (ji5) then (if (ji5) < (l0.length : Int) then (some ((rd_T38 l0 (ji5)).f0, true)) else (none)) else (none)) = some (r1, r2) := by first | (rw [hji5] at H; exact H) | (simp only [hji5] at H ⊢; exact H)
      (try rw [hji5] at A3)
      have hji5w : (IntKind.i64.wrap ((l0.length : Int) - 1)) = ji5 := (i64_w _).trans hji5
      by_cases c6 : 0 ≤ (ji5)
      · rw [if_pos c6] at H
        have c6b0 : decide (0 ≤ (ji5)) = true := decide_eq_true c6
        clear c6
        by_cases c7 : (ji5) < (l0.length : Int)
        · rw [if_pos c7] at H
          have c7b0 : decide ((ji5) < (l0.length : Int)) = true := decide_eq_true c7
          clear c7
          simp only [Option.some.injEq, Prod.mk.injEq] at H
          obtain ⟨rfl, rfl⟩ := H
          go_enter Tryd.func19, Tryd.ntmps19
          go_wp2_with (first | (go_at_call 28; (with_reducible refine (leaps_step.calls _ _ l0 ji5 t142 _ ?side1 ?side2 A3.out).mono ?_); (case side1 => repeat (first | exact HR0.out | (with_reducible refine Kd.C_alloc ?_ _) | (with_reducible refine Kd.C_drewN ?_ _) | (with_reducible refine Kd.C_drew ?_))); (case side2 => exact HC0.out); rintro e w' ⟨rfl, ⟨nd, rfl⟩⟩; have p143 : 0 ≤ ((ji5) : Int) := of_decide_eq_true (by first | (with_reducible assumption) | assumption); have q143 : (ji5) < (l0.length : Int) := of_decide_eq_true (by first | (with_reducible assumption) | assumption); obtain ⟨ad143, e143, hx143_0, hx143_1⟩ := at_T38 HR0.out (ji5) p143 q143; cases e143; replace p143 := eq_true p143; replace q143 := eq_true q143))
          go_ret2
          exact ⟨by first | rfl | (simp; done) | (simp only [← hji5] <;> (first | rfl | simp)) | (simp [*]; done), by repeat (first | exact Drawn0.refl _ | apply Drawn0.step)⟩
        · rw [if_neg c7] at H
          exact absurd H (by simp)
      · rw [if_neg c6] at H
        exact absurd H (by simp)
    · rw [if_neg c4] at H
      have c4b0 : (t142 == 0) = false := beq_eq_false_iff_ne.mpr c4
      have c4b1 : (t142 != 0) = true := bne_iff_ne.mpr c4
      simp only [Option.some.injEq, Prod.mk.injEq] at H
      obtain ⟨rfl, rfl⟩ := H
      go_enter Tryd.func19, Tryd.ntmps19
      go_wp2_with (first | (go_at_call 28; (with_reducible refine (leaps_step.calls _ _ l0 (wrap64 ((l0.length : Int) - 1)) t142 _ ?side1 ?side2 A3.out).mono ?_); (case side1 => repeat (first | exact HR0.out | (with_reducible refine Kd.C_alloc ?_ _) | (with_reducible refine Kd.C_drewN ?_ _) | (with_reducible refine Kd.C_drew ?_))); (case side2 => exact HC0.out); rintro e w' ⟨rfl, ⟨nd, rfl⟩⟩))
      go_ret2
      exact ⟨by first | rfl | (simp; done) | (simp [*]; done), by repeat (first | exact Drawn0.refl _ | apply Drawn0.step)⟩

/-! ### leaps_Correction: function 21 -/
def leaps_Correction.l0 : Nat → Int → Int → List (S38) → Int → Int → Option (Int)
  | 0, _, _, _, _, _ => none
  | k + 1, x1, x5, x8, x9, x10 => if x10 < x9 then (if 0 ≤ x10 then (if x10 < (x8.length : Int) then (if ((rd_T38 x8 x10).f0) > x1 then (some x5) else (leaps_Correction.l0 k x1 (wrap64 ((rd_T38 x8 x10).f1)) x8 x9 (wrap64 (x10 + 1)))) else (none)) else (none)) else (some x5)
def leaps_Correction.f (k : Nat) (l0 : List (S38)) (a1 : Int) : Option (Int) := leaps_Correction.l0 k a1 0 l0 (l0.length : Int) 0
theorem leaps_Correction.mono_l : ∀ k, (∀ y0 y1 y2 y3 y4, LeO (leaps_Correction.l0 k y0 y1 y2 y3 y4) (leaps_Correction.l0 (k + 1) y0 y1 y2 y3 y4))
  | 0 => fun _ _ _ _ _ r h => by simp [leaps_Correction.l0] at h
  | k + 1 => by
    have ih0 := leaps_Correction.mono_l k
    · intro y0 y1 y2 y3 y4
      unfold leaps_Correction.l0
      repeat' first
      | (with_reducible exact ih0 _ _ _ _ _)
      | (with_reducible exact LeO.refl _)
      | (with_reducible exact LeO.none _)
      | (with_reducible refine LeO.ite ?_ ?_)
      | (with_reducible refine LeO.bind ?_ (fun _ => ?_))
      | exact ih0 _ _ _ _ _
      | exact LeO.none _
      | refine LeO.ite ?_ ?_
      | refine LeO.bind ?_ (fun _ => ?_)
theorem leaps_Correction.mono : ∀ a0 a1 k, LeO (leaps_Correction.f k a0 a1) (leaps_Correction.f (k + 1) a0 a1) := by
  intro a0 a1 k
  have ih0 := leaps_Correction.mono_l k
  unfold leaps_Correction.f
  repeat' first
      | (with_reducible exact ih0 _ _ _ _ _)
      | (with_reducible exact LeO.refl _)
      | (with_reducible exact LeO.none _)
      | (with_reducible refine LeO.ite ?_ ?_)
      | (with_reducible refine LeO.bind ?_ (fun _ => ?_))
      | exact ih0 _ _ _ _ _
      | exact LeO.none _
      | refine LeO.ite ?_ ?_
      | refine LeO.bind ?_ (fun _ => ?_)
set_option maxHeartbeats 8000000 in
set_option maxRecDepth 100000 in
theorem leaps_Correction.calls (k : Nat) (A0 : Option Addr) (c0 : Nat) (l0 : List (S38)) (a1 : Int) (r : Int) (w : World) (hr0 : Kd.C k38 w A0 l0.length l0) (hc0 : l0.length ≤ c0) (h : leaps_Correction.f k l0 a1 = some r) :
    Calls Tryd.prog 21 #[.slice A0 l0.length c0, .int .i64 a1] w fun e w' => e = .returned (.int .i64 r) ∧ Below w.heap.size w w' := by
  have hu38 := Tryd.underlying38
  have HR0 := Aside0.mk hr0
  have HC0 := Aside0.mk hc0
  clear hr0 hc0
  have HB := Aside0.mk (Below.refl w.heap.size w)
  have H : (leaps_Correction.l0 k a1 0 l0 (l0.length : Int) 0) = some r := h
  clear h
  have H' := Aside0.mk H
  clear H
  go_enter Tryd.func21, Tryd.ntmps21
  go_wp2
  go_loopg [5, 10] k (fun kq v5 v10 w' => ∃ (x5_1 : Int) (x10_1 : Int), v5 = .int .i64 x5_1 ∧ v10 = .int .i64 x10_1 ∧ Aside0 (leaps_Correction.l0 kq a1 x5_1 l0 (l0.length : Int) x10_1 = some r) ∧ Aside0 (kq ≤ k) ∧ Aside0 (Below w.heap.size w w'))
  case atStart => exact ⟨(0), (0), (by first | rfl | (simp; done) | (simp [*]; done)), (by first | rfl | (simp; done) | (simp [*]; done)), H', ⟨Nat.le_refl _⟩, ⟨by repeat (first | (with_reducible first | exact HB.out | apply below_alloc | apply pw_below_drewN | apply below_drew1) | exact HB.out)⟩⟩
  case round =>
    clear H'
    try clear c2
    try clear p2
    obtain ⟨x5_1, x10_1, rfl, rfl, HA, HK1, HB⟩ := hrel
    cases gk with
    | zero => exact absurd HA.out (by simp [leaps_Correction.l0])
    | succ k1 =>
      have H := HA.out
      clear HA
      simp only [leaps_Correction.l0] at H
      by_cases c3 : x10_1 < (l0.length : Int)
      · rw [if_pos c3] at H
        have c3b0 : decide (x10_1 < (l0.length : Int)) = true := decide_eq_true c3
        clear c3
        by_cases c4 : 0 ≤ x10_1
        · rw [if_pos c4] at H
          have c4b0 : decide (0 ≤ x10_1) = true := decide_eq_true c4
          clear c4
          by_cases c5 : x10_1 < (l0.length : Int)
          · rw [if_pos c5] at H
            have c5b0 : decide (x10_1 < (l0.length : Int)) = true := decide_eq_true c5
            clear c5
            by_cases c6 : ((rd_T38 l0 x10_1).f0) > a1
            · rw [if_pos c6] at H
              have c6b0 : decide (a1 < ((rd_T38 l0 x10_1).f0)) = true := decide_eq_true c6
              clear c6
              obtain rfl := Option.some.inj H
              have p144 : 0 ≤ (x10_1 : Int) := of_decide_eq_true (by first | (with_reducible assumption) | assumption)
              have q144 : x10_1 < (l0.length : Int) := of_decide_eq_true (by first | (with_reducible assumption) | assumption)
              obtain ⟨ad144, e144, hx144_0, hx144_1⟩ := at_T38 HR0.out x10_1 p144 q144
              cases e144
              replace hx144_0 := (HB.out.cell (World.block_lt_of_cell? w _ hx144_0)).trans hx144_0
              replace hx144_1 := (HB.out.cell (World.block_lt_of_cell? w _ hx144_1)).trans hx144_1
              replace p144 := eq_true p144
              replace q144 := eq_true q144
              go_wp2_with (first | ((with_reducible refine gate_dst (N := 7) rfl ?_); refine box_event ?hg (N := 7) ?hd (cs := #[.int .i64 0, .int .i32 0]) (t := 38) ?hr ?_; (case hd => rfl); (case hg => rfl); (case hr => first | (go_simp; done) | (go_simp; rfl)); intro gb145 hg w7 hbox hb; have n0_ := Aside0.mk (below_step (by repeat (first | (with_reducible first | exact HB.out | apply below_alloc | apply pw_below_drewN | apply below_drew1) | exact HB.out)) hb); have n1_ := Aside0.mk (hbox); have n2_ := Aside0.mk ((by rw [hg]; exact (below_size (by repeat (first | (with_reducible first | exact HB.out | apply below_alloc | apply pw_below_drewN | apply below_drew1) | exact HB.out))) : w.heap.size ≤ gb145)); have n3_ := Aside0.mk ((by rw [hg]; exact (below_size (by repeat (first | (with_reducible first | exact HB.out | apply below_alloc | apply pw_below_drewN | apply below_drew1) | exact HB.out))) : w.heap.size ≤ gb145)); clear HB; have HB := n0_; have BK145 := n1_; have GW145 := n2_; have GE145 := n3_; clear n0_ n1_ n2_ n3_; clear hb hbox hg; have hcz8_0 : w7.cell? ⟨gb145, 0, none⟩ = some (.int .i64 0) := (blk_cell BK145.out 0).trans rfl; have hcz8_1 : w7.cell? ⟨gb145, 1, none⟩ = some (.int .i32 0) := (blk_cell BK145.out 1).trans rfl; have hfz8_0 := blk_frozen BK145.out 0; have hfz8_1 := blk_frozen BK145.out 1))
              go_ret
              exact ⟨by first | rfl | (simp [errW_none, errW_some] <;> rfl) | (simp [*, errW_none, errW_some] <;> rfl), by repeat (first | (with_reducible first | exact HB.out | apply below_alloc | apply pw_below_drewN | apply below_drew1 | refine below_set ?_ GE145.out) | exact HB.out)⟩
            · rw [if_neg c6] at H
              have c6b0 : decide (a1 < ((rd_T38 l0 x10_1).f0)) = false := decide_eq_false c6
              clear c6
              have H' := Aside0.mk H
              clear H
              have p144 : 0 ≤ (x10_1 : Int) := of_decide_eq_true (by first | (with_reducible assumption) | assumption)
              have q144 : x10_1 < (l0.length : Int) := of_decide_eq_true (by first | (with_reducible assumption) | assumption)
              obtain ⟨ad144, e144, hx144_0, hx144_1⟩ := at_T38 HR0.out x10_1 p144 q144
              cases e144
              replace hx144_0 := (HB.out.cell (World.block_lt_of_cell? w _ hx144_0)).trans hx144_0
              replace hx144_1 := (HB.out.cell (World.block_lt_of_cell? w _ hx144_1)).trans hx144_1
              replace p144 := eq_true p144
              replace q144 := eq_true q144
              go_wp2_with (first | ((with_reducible refine gate_dst (N := 7) rfl ?_); refine box_event ?hg (N := 7) ?hd (cs := #[.int .i64 0, .int .i32 0]) (t := 38) ?hr ?_; (case hd => rfl); (case hg => rfl); (case hr => first | (go_simp; done) | (go_simp; rfl)); intro gb145 hg w9 hbox hb; have n0_ := Aside0.mk (below_step (by repeat (first | (with_reducible first | exact HB.out | apply below_alloc | apply pw_below_drewN | apply below_drew1) | exact HB.out)) hb); have n1_ := Aside0.mk (hbox); have n2_ := Aside0.mk ((by rw [hg]; exact (below_size (by repeat (first | (with_reducible first | exact HB.out | apply below_alloc | apply pw_below_drewN | apply below_drew1) | exact HB.out))) : w.heap.size ≤ gb145)); have n3_ := Aside0.mk ((by rw [hg]; exact (below_size (by repeat (first | (with_reducible first | exact HB.out | apply below_alloc | apply pw_below_drewN | apply below_drew1) | exact HB.out))) : w.heap.size ≤ gb145)); clear HB; have HB := n0_; have BK145 := n1_; have GW145 := n2_; have GE145 := n3_; clear n0_ n1_ n2_ n3_; clear hb hbox hg; have hcz10_0 : w9.cell? ⟨gb145, 0, none⟩ = some (.int .i64 0) := (blk_cell BK145.out 0).trans rfl; have hcz10_1 : w9.cell? ⟨gb145, 1, none⟩ = some (.int .i32 0) := (blk_cell BK145.out 1).trans rfl; have hfz10_0 := blk_frozen BK145.out 0; have hfz10_1 := blk_frozen BK145.out 1))
              go_roundg k1
              case measure => have := HK1.out; omega
              case rel => exact ⟨(wrap64 ((rd_T38 l0 x10_1).f1)), (wrap64 (x10_1 + 1)), (by first | rfl | (simp; done) | (simp [*]; done)), (by first | rfl | (simp; done) | (simp [*]; done)), H', ⟨by have := HK1.out; omega⟩, ⟨by repeat (first | (with_reducible first | exact HB.out | apply below_alloc | apply pw_below_drewN | apply below_drew1 | refine below_set ?_ GE145.out) | exact HB.out)⟩⟩
          · rw [if_neg c5] at H
            exact absurd H (by simp)
        · rw [if_neg c4] at H
          exact absurd H (by simp)
      · rw [if_neg c3] at H
        have c3b0 : decide (x10_1 < (l0.length : Int)) = false := decide_eq_false c3
        clear c3
        obtain rfl := Option.some.inj H
        go_wp2
        go_ret
        exact ⟨by first | rfl | (simp [errW_none, errW_some] <;> rfl) | (simp [*, errW_none, errW_some] <;> rfl), by repeat (first | (with_reducible first | exact HB.out | apply below_alloc | apply pw_below_drewN | apply below_drew1) | exact HB.out)⟩

end Go.Proofs.YtiaobffdggeofaaDoor.G
