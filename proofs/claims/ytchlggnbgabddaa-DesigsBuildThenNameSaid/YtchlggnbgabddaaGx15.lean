/- Written by a program of this session for this seat: contracts of the functions that its laws reach, or the row of a law over its plain part. -/
import Derived.Test.YtchlggnbgabddaaGx0
namespace Go.Proofs.Ytchlggnbgabddaa.G
open Go.RowKit Go.Proofs.YtchlggnbgabddaaW.PrintWords Go.Proofs.YtchlggnbgabddaaW.PrintLast Go.Proofs.YtchlggnbgabddaaW.PrintMore
attribute [local go_sem] max2_int min2_int max_two min_two max_three min_three max_four min_four   -- for this text's walks alone
set_option linter.unusedVariables false
set_option linter.unusedSimpArgs false

/-! ### desigs_Name: function 13 -/
/-- What stands ahead of the first NUL. -/
def nulAt (c : Int) : Bool := c.toNat.toUInt8 == 0
def nameOf (l : List Int) : List Int := l.takeWhile (fun c => !nulAt c)
theorem name_ix : ∀ l : List Int, (0 ≤ Lib.indexByte (Lib.bytesOf l) 0 → l.take (Lib.indexByte (Lib.bytesOf l) 0).toNat = nameOf l ∧ (Lib.indexByte (Lib.bytesOf l) 0).toNat < l.length) ∧ (Lib.indexByte (Lib.bytesOf l) 0 < 0 → nameOf l = l)
  | [] => ⟨fun h => by simp [Lib.bytesOf, Lib.indexByte] at h, fun _ => rfl⟩
  | c :: l => by
    obtain ⟨h1, h2⟩ := name_ix l
    have hge := Lib.indexByte_ge (Lib.bytesOf l) 0
    rw [show Lib.bytesOf (c :: l) = c.toNat.toUInt8 :: Lib.bytesOf l from rfl]
    unfold Lib.indexByte
    unfold nameOf
    by_cases hc : c.toNat.toUInt8 = 0
    · rw [if_pos (by rw [hc]; rfl), List.takeWhile_cons_of_neg (by simp [nulAt, hc])]
      exact ⟨fun _ => ⟨rfl, by simp⟩, fun h => by omega⟩
    · rw [if_neg (by simpa using hc), List.takeWhile_cons_of_pos (by simp [nulAt, hc])]
      generalize Lib.indexByte (Lib.bytesOf l) 0 = q at h1 h2 hge ⊢
      by_cases hq : q = -1
      · rw [if_pos (by rw [hq]; rfl)]
        exact ⟨fun h => by omega, fun _ => by rw [show l.takeWhile (fun c => !nulAt c) = l from h2 (by omega)]⟩
      · rw [if_neg (by simpa using hq)]
        have hq0 : 0 ≤ q := by omega
        refine ⟨fun _ => ?_, fun h => by omega⟩
        obtain ⟨a, b⟩ := h1 hq0
        rw [show (q + 1).toNat = q.toNat + 1 by omega, List.take_succ_cons, a]
        exact ⟨rfl, by rw [List.length_cons]; omega⟩
def desigs_Name.f (l0 : List Int) (a1 : Int) : Option (ByteArray × Bool) := if a1 < 0 then (some (⟨#[]⟩, false)) else (if a1 ≥ (l0.length : Int) then (some (⟨#[]⟩, false)) else (if l0.length ≤ 4611686018427387904 then (some (strOfNums (nameOf (l0.drop a1.toNat)), true)) else (none)))
theorem name_drewN {B : Nat} {a w : World} (h : Below B a w) (n : Nat) : Below B a (w.drewN n) := ⟨h.os, h.tape, h.output, h.size, h.block⟩
set_option maxRecDepth 100000 in
set_option maxHeartbeats 4000000 in
theorem desigs_Name.calls (A0 : Option Addr) (c0 : Nat) (l0 : List Int) (a1 : Int) (r1 : ByteArray) (r2 : Bool) (w : World) (hr0 : Kd.C (Kd.int .u8) w A0 l0.length l0) (hc0 : l0.length ≤ c0) (h : desigs_Name.f l0 a1 = some (r1, r2)) :
    Calls Try.prog 13 #[.slice A0 l0.length c0, .int .i64 a1] w fun e w' => e = .returned (.tuple #[.string r1, .bool r2]) ∧ Below w.heap.size w w' := by
  have H : (if a1 < 0 then (some (⟨#[]⟩, false)) else (if a1 ≥ (l0.length : Int) then (some (⟨#[]⟩, false)) else (if l0.length ≤ 4611686018427387904 then (some (strOfNums (nameOf (l0.drop a1.toNat)), true)) else (none)))) = some (r1, r2) := h
  clear h
  by_cases c1 : a1 < 0
  · rw [if_pos c1] at H
    obtain ⟨rfl, rfl⟩ := Prod.mk.inj (Option.some.inj H)
    have b1 : decide (a1 < 0) = true := decide_eq_true c1
    go_enter Try.func13, Try.ntmps13
    go_wp2
    repeat (go_quiet (fail); try go_wp2)
    go_ret2
    exact ⟨by first | rfl | (simp; done) | (simp [*]; done), Below.refl _ _⟩
  · rw [if_neg c1] at H
    have b1 : decide (a1 < 0) = false := decide_eq_false c1
    by_cases c2 : a1 ≥ (l0.length : Int)
    · rw [if_pos c2] at H
      obtain ⟨rfl, rfl⟩ := Prod.mk.inj (Option.some.inj H)
      have b2 : decide ((l0.length : Int) ≤ a1) = true := decide_eq_true c2
      go_enter Try.func13, Try.ntmps13
      go_wp2
      repeat (go_quiet (fail); try go_wp2)
      go_ret2
      exact ⟨by first | rfl | (simp; done) | (simp [*]; done), Below.refl _ _⟩
    · rw [if_neg c2] at H
      have b2 : decide ((l0.length : Int) ≤ a1) = false := decide_eq_false c2
      obtain ⟨j, rfl⟩ := Int.eq_ofNat_of_zero_le (show 0 ≤ a1 by omega)
      have hj : j < l0.length := by omega
      rw [Int.toNat_natCast] at H
      by_cases hbig : l0.length ≤ 4611686018427387904
      case neg => rw [if_neg hbig] at H; cases H
      rw [if_pos hbig] at H
      obtain ⟨rfl, rfl⟩ := Prod.mk.inj (Option.some.inj H)
      clear H
      have hmax : l0.length ≤ 9223372036854775807 := hr0.2.1
      have hrd := Kd.reads_of_C (d := (0 : Int)) hr0
      obtain ⟨_, _, hrc⟩ := hrd
      obtain ⟨ad, rfl, hcell⟩ := hrc (by omega)
      obtain ⟨b, o, spot⟩ := ad
      have hspot : spot = none := by simpa [Addr.add] using World.cell?_spot (hcell 0 (by omega))
      subst hspot
      have hlen : (l0.drop j).length = l0.length - j := List.length_drop
      have hC2 : Kd.C (Kd.int .u8) w (some ⟨b, o + j, none⟩) (l0.length - j) (l0.drop j) := by
        refine Kd.C_of_reads (d := (0 : Int)) (h1 := fun _ => rfl) ⟨hlen, by omega, fun _ => ⟨_, rfl, fun i hi => ?_⟩⟩
        have := hcell (j + i) (by omega)
        rw [Go.WideShapes.add_plain, ← Nat.add_assoc] at this
        rw [Go.WideShapes.add_plain]
        rw [this]
        simp [List.getD_eq_getElem?_getD, List.getElem?_drop]
      obtain ⟨n1, n2⟩ := name_ix (l0.drop j)
      have hge := Lib.indexByte_ge (Lib.bytesOf (l0.drop j)) 0
      have hW : Below w.heap.size w (w.alloc (.cells #[.int .u8 0] 5)) := (Below.refl _ _).alloc (Nat.le_refl _) _
      have hC3 := Kd.C_below hC2 hW
      have hidx : Calls Try.prog 26 #[.slice (some ⟨b, o + j, none⟩) (l0.length - j) (c0 - j), .slice (some ⟨w.heap.size, 0, none⟩) 1 1] (w.alloc (.cells #[.int .u8 0] 5)) fun e w' => e = .returned (.int .i64 (Lib.indexByte (Lib.bytesOf (l0.drop j)) 0)) ∧ ∃ q, w' = (w.alloc (.cells #[.int .u8 0] 5)).drewN q := by
        obtain ⟨_, _, hr⟩ := Kd.reads_of_C (d := (0 : Int)) hC3
        refine (Try.bytes_Index_one_at ⟨b, o + j, none⟩ (l0.length - j) (c0 - j) w.heap.size 0 1 (l0.drop j) 0 _ hlen (fun i hi => ?_) (World.cell?_alloc_at _ _ _ _ rfl)).mono fun e w' ⟨he, hw⟩ => ⟨he, 0, hw⟩
        obtain ⟨ad, e, hr⟩ := hr (by omega)
        cases e
        exact hr i hi
      have hcut := Try.bytes_Cut_of (some ⟨b, o + j, none⟩) (some ⟨w.heap.size, 0, none⟩) (l0.length - j) (c0 - j) 1 1 (Lib.indexByte (Lib.bytesOf (l0.drop j)) 0) (w.alloc (.cells #[.int .u8 0] 5)) (by omega) hge (fun h => by have := (n1 h).2; omega) (by omega) hidx
      have hjc : j < c0 := by omega
      clear hidx hcell hr0 hC2
      have HN1 := Aside0.mk n1
      have HN2 := Aside0.mk n2
      have HC3 := Aside0.mk hC3
      have HC0 := Aside0.mk hc0
      have HL := Aside0.mk hlen
      clear n1 n2 hC3 hc0 hlen hge
      unfold Lib.cutV at hcut
      by_cases hi : 0 ≤ Lib.indexByte (Lib.bytesOf (l0.drop j)) 0
      · rw [if_pos hi] at hcut
        obtain ⟨e1, e2⟩ := HN1.out hi
        have hcv : ∀ q : Nat, (convert 22 9 (.slice (some ⟨b, o + j, none⟩) (Lib.indexByte (Lib.bytesOf (l0.drop j)) 0).toNat (c0 - j))).run Try.prog ((w.alloc (.cells #[.int .u8 0] 5)).drewN q) = .ok (.string (strOfNums (nameOf (l0.drop j)))) ((w.alloc (.cells #[.int .u8 0] 5)).drewN q) := fun q => by
          have hk := Kd.C_below (w1 := (w.alloc (.cells #[.int .u8 0] 5)).drewN q) HC3.out (name_drewN (Below.refl _ _) q)
          rw [← HL.out] at hk
          have h2 := Kd.C_take (m := (Lib.indexByte (Lib.bytesOf (l0.drop j)) 0).toNat) hk (by omega)
          rw [e1] at h2
          have h3 : (nameOf (l0.drop j)).length = (Lib.indexByte (Lib.bytesOf (l0.drop j)) 0).toNat := by rw [← e1, List.length_take]; omega
          rw [h3] at h2
          exact Kd.C_string Try.underlying22 Try.underlying5 Try.underlying9 h2
        obtain ⟨m, hm⟩ : ∃ m : Nat, (Lib.indexByte (Lib.bytesOf (l0.drop j)) 0).toNat = m := ⟨_, rfl⟩
        rw [hm] at hcut hcv
        clear hm e1 e2 hi
        go_enter Try.func13, Try.ntmps13
        go_wp2_with (go_at_call 23; ((with_reducible refine hcut.mono ?_); rintro e w' ⟨rfl, ⟨q, rfl⟩⟩))
        go_ret2
        exact ⟨rfl, name_drewN hW _⟩
      · rw [if_neg hi] at hcut
        have e1 := HN2.out (by omega)
        have hcv : ∀ q : Nat, (convert 22 9 (.slice (some ⟨b, o + j, none⟩) (l0.length - j) (c0 - j))).run Try.prog ((w.alloc (.cells #[.int .u8 0] 5)).drewN q) = .ok (.string (strOfNums (nameOf (l0.drop j)))) ((w.alloc (.cells #[.int .u8 0] 5)).drewN q) := fun q => by
          have hk := Kd.C_below (w1 := (w.alloc (.cells #[.int .u8 0] 5)).drewN q) HC3.out (name_drewN (Below.refl _ _) q)
          rw [e1]
          exact Kd.C_string Try.underlying22 Try.underlying5 Try.underlying9 hk
        clear e1 hi
        go_enter Try.func13, Try.ntmps13
        go_wp2_with (go_at_call 23; ((with_reducible refine hcut.mono ?_); rintro e w' ⟨rfl, ⟨q, rfl⟩⟩))
        go_ret2
        exact ⟨rfl, name_drewN hW _⟩

end Go.Proofs.Ytchlggnbgabddaa.G
