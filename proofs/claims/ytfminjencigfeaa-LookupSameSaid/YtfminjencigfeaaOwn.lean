/- Words of this session's own, beside the print's: what make with a capacity of its own leaves. -/
import Derived.Test.YtfminjencigfeaaWWords
import Derived.Test.YtfminjencigfeaaWMore
import Derived.WalkMore
import Derived.Laws.Externs
set_option linter.unusedVariables false
set_option linter.unusedSimpArgs false
namespace Go.Proofs.YtfminjencigfeaaW.PrintWords
open Go.RowKit
namespace Kd
section
variable {P : Program} {ops : Array Oper} {rest : List Oper} {o : Oper} {a : Act} {Q : Exit → Act → World → Prop}
variable {α : Type}
/-- make([]T, 0, n): an empty row of the call's own, with room. -/
theorem R_makecap (d : Kd α) {w0 W : World} (base e : Nat) (hgd : o.guard = none) {N : Tmp} (_hd : o.dst = some N) (t : TypeId) (x y : Operand) (ho : o.op = .makeSlice t x y) (n : Int) (hx : a.eval x = .int .i64 0) (hy : a.eval y = .int .i64 n)
    (ht : P.underlying t = some (.slice e)) (z : Value) (bytes : Nat) (hinfo : (P.info? e).map (fun i => (i.zero, i.size, i.bytes)) = some (some z, d.sz, bytes)) (hz : z.cells.size = d.sz) (_hs0 : 0 < d.sz) (hb0 : 0 < bytes)
    {ok : Nat → Prop} (hfresh : ok W.heap.size) (h0 : 0 ≤ n) (hl : n.toNat * bytes ≤ 281474976710656) (HB : Below base w0 W) (hbase : base ≤ W.heap.size)
    (h : ∀ v1 w1, d.R e w1 base ok v1 [] → Below base w0 w1 → W.grownBy w1 none → (∃ b, v1.ownBlock = some b ∧ W.heap.size ≤ b) → wpList P ops Q rest (a.put o.dst v1) w1) : wpList P ops Q (o :: rest) a W := by
  obtain ⟨m, rfl⟩ := Int.eq_ofNat_of_zero_le h0
  simp only [Int.toNat_natCast] at hl
  obtain ⟨i0, hi, hzz⟩ := Option.map_eq_some_iff.1 hinfo
  simp only [Prod.mk.injEq] at hzz
  obtain ⟨hz0, hz1, hz2⟩ := hzz
  have hm : m ≤ 281474976710656 := Nat.le_trans (Nat.le_mul_of_pos_right _ hb0) hl
  have hr := run_make (P := P) W t e i0 z ht hi hz0 .i64 .i64 0 (m : Int) (by omega) (by omega)
    (by
      have h3 : ((i0.bytes * m : Nat) : Int) ≤ 281474976710656 := by rw [hz2, Nat.mul_comm]; omega
      rwa [Int.natCast_mul] at h3) (by omega)
  simp only [Int.toNat_natCast, Int.toNat_zero] at hr
  rw [hz1] at hr
  refine event_run hgd (v := .slice (some ⟨W.heap.size, 0, none⟩) 0 m) (w1 := W.alloc (.cells (madeCells z.cells (m * d.sz)) e)) (by simp [execOp, ho, hx, hy, hr])
    (h _ _ ⟨fun k hk => ?_, [], ⟨by simp, .inr ⟨W.heap.size, m, madeCells z.cells (m * d.sz), rfl, hbase, heap_alloc_new W _, Nat.zero_le _, by unfold maxLen; omega, by simp [size_madeCells], by simp⟩⟩, Reps.none _ _⟩ (HB.alloc hbase _) (World.grownBy_alloc W _ none) ⟨W.heap.size, by simp [Value.ownBlock], Nat.le_refl _⟩)
  have : W.heap.size = k := by simpa [Value.ownBlock] using hk
  subst this
  exact hfresh
end
end Kd
end Go.Proofs.YtfminjencigfeaaW.PrintWords
namespace Go.Proofs.YtfminjencigfeaaW.PrintWords
open Go.RowKit
namespace Kd
/-- A constant's bytes get the run time's mark: their row is only read from here on. -/
theorem run_conv {P : Program} (W : World) (T e g n c : Nat) (cur : Array Value) (ht : P.underlying T = some (.slice e)) (he : P.underlying e = some (.int .u8)) (hg : W.heap[g]? = some (.cells cur e (0, 0))) :
    ∃ W1, (convert T T (.slice (some ⟨g, 0, none⟩) n c)).run P W = .ok (.slice (some ⟨g, 0, none⟩) n c) W1 ∧ W1.heap[g]? = some (.cells cur e (cur.size, cur.size + 1)) ∧ W.grownBy W1 (some g) := by
  have hsh : W.shape? g = some (e, cur.size) := by unfold World.shape?; rw [hg]
  refine ⟨W.freeze ⟨g, cur.size, none⟩ 1, ?_, ?_, ?_⟩
  · simp [convert, run_underlying ht, run_underlying he, markStringish, hsh]
  · unfold World.freeze
    rw [if_neg (by decide)]
    obtain ⟨hlt, hge⟩ := Array.getElem?_eq_some_iff.1 hg
    rw [Array.getElem?_eq_some_iff]
    refine ⟨by simpa using hlt, ?_⟩
    rw [Array.getElem_modify, if_pos rfl, hge]
    rfl
  · unfold World.freeze
    rw [if_neg (by decide)]
    refine ⟨rfl, rfl, rfl, by simp, fun k _ hne => ?_⟩
    have hk : g ≠ k := fun e => hne (by rw [e])
    simp [Array.getElem?_modify, hk]
section
variable {P : Program} {ops : Array Oper} {rest : List Oper} {o : Oper} {a : Act} {Q : Exit → Act → World → Prop}
theorem R_conv {w0 W : World} (base : Nat) (hgd : o.guard = none) (T e : Nat) (x : Operand) (ho : o.op = .convert T T x) (ht : P.underlying T = some (.slice e)) (he : P.underlying e = some (.int .u8)) (v : Value) (xs : List Int) (ok : Nat → Prop) (hx : a.eval x = v) (hne : xs ≠ [])
    (HO : (Kd.int .u8).R e W base ok v xs) (HB : Below base w0 W) (hbase : base ≤ W.heap.size)
    (h : ∀ v1 w1, V (Kd.int .u8) e w1 base ok v1 xs → Below base w0 w1 → W.grownBy w1 v.ownBlock → (v1.ownBlock = v.ownBlock ∨ ∃ b, v1.ownBlock = some b ∧ W.heap.size ≤ b) → wpList P ops Q rest (a.put o.dst v1) w1) : wpList P ops Q (o :: rest) a W := by
  have HC := R_reads HO
  obtain ⟨hok, inner, hown, _⟩ := HO
  obtain ⟨hl, hown⟩ := hown
  rcases hown with ⟨rfl, h0⟩ | ⟨g, cap, cur, rfl, hgb, hh, hn, hcap, hcs, htk⟩
  · exact absurd (List.length_eq_zero_iff.1 h0) hne
  · obtain ⟨W1, hrun, hh1, hgr⟩ := run_conv (P := P) W T e g xs.length cap cur ht he hh
    obtain ⟨A, c, hv, hlc, hC⟩ := HC
    cases hv
    refine event_run hgd (v := .slice (some ⟨g, 0, none⟩) xs.length cap) (w1 := W1) (by simp [execOp, ho, hx, hrun]) (h _ W1 ⟨some ⟨g, 0, none⟩, cap, rfl, hlc, fun W' hW => ?_⟩ ?_ hgr (.inl rfl))
    · have hgk : g < W1.heap.size := (Array.getElem?_eq_some_iff.1 hh1).1
      have hg' := hW g (hok g (by simp [Value.ownBlock])) hgk
      rw [hh1] at hg'
      have hr := reads_of_C (d := (0 : Int)) hC
      refine C_of_reads (d := (0 : Int)) (h1 := fun _ => rfl) ⟨hr.1, hr.2.1, fun hp => ?_⟩
      obtain ⟨ad, e1, hcell⟩ := hr.2.2 hp
      cases e1
      refine ⟨_, rfl, fun j hj => ?_⟩
      have := hcell j hj
      rw [PrintWords.add_plain] at this ⊢
      simp only [World.cell?, hh] at this
      simp only [World.cell?, hg']
      exact this
    · exact HB.grown hgr hbase (fun k hk => by have : g = k := by simpa [Value.ownBlock] using hk
                                               omega)
end
end Kd
end Go.Proofs.YtfminjencigfeaaW.PrintWords
