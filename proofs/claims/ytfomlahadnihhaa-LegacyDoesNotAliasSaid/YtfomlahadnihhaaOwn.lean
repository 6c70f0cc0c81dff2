/- Words of this session's own, beside the print's: what make with a capacity of its own leaves. -/
import Derived.Test.YtfomlahadnihhaaWWords
import Derived.Test.YtfomlahadnihhaaWMore
import Derived.WalkMore
import Derived.Laws.Externs
import Derived.Laws.Tables
import Derived.ChangeKeysEq
import Derived.Laws.StructEq
set_option linter.unusedVariables false
set_option linter.unusedSimpArgs false
namespace Go.Proofs.YtfomlahadnihhaaW.PrintWords
open Go.RowKit
namespace Kd
section
variable {P : Program} {ops : Array Oper} {rest : List Oper} {o : Oper} {a : Act} {Q : Exit → Act → World → Prop}
variable {α : Type}
/-- make([]T, 0, n): an empty row of the call's own, with room. -/
theorem R_makecap (d : Kd α) {w0 W : World} (base e : Nat) (hgd : o.guard = none) {N : Tmp} (_hd : o.dst = some N) (t : TypeId) (x y : Operand) (ho : o.op = .makeSlice t x y) (n : Int) (hx : a.eval x = .int .i64 0) (hy : a.eval y = .int .i64 n)
    (ht : P.underlying t = some (.slice e)) (z : Value) (bytes : Nat) (hinfo : (P.info? e).map (fun i => (i.zero, i.size, i.bytes)) = some (some z, d.sz, bytes)) (hz : z.cells.size = d.sz) (_hs0 : 0 < d.sz) (hb0 : 0 < bytes)
    {ok : Nat → Prop} (hfresh : ok W.heap.size) (h0 : 0 ≤ n) (hl : n.toNat * bytes ≤ 281474976710656) (HB : Below base w0 W) (hbase : base ≤ W.heap.size)
    (h : ∀ v1 w1, d.R e w1 base ok v1 [] → Below base w0 w1 → W.grownBy w1 none → (∃ b, v1.ownBlock = some b ∧ W.heap.size ≤ b) → wpList P ops Q rest (a.put o.dst v1) w1) : wpList P ops Q (o :: rest) a W := by
  obtain ⟨m, rfl⟩ := Int.eq_ofNat_of_zero_le h0
  simp only [Int.toNat_natCast] at hl
  obtain ⟨i0, hi, hzz⟩ := Option.map_eq_some_iff.1 hinfo
  simp only [Prod.mk.injEq] at hzz
  obtain ⟨hz0, hz1, hz2⟩ := hzz
  have hm : m ≤ 281474976710656 := Nat.le_trans (Nat.le_mul_of_pos_right _ hb0) hl
  have hr := run_make (P := P) W t e i0 z ht hi hz0 .i64 .i64 0 (m : Int) (by omega) (by omega)
    (by
      have h3 : ((i0.bytes * m : Nat) : Int) ≤ 281474976710656 := by rw [hz2, Nat.mul_comm]; omega
      rwa [Int.natCast_mul] at h3) (by omega)
  simp only [Int.toNat_natCast, Int.toNat_zero] at hr
  rw [hz1] at hr
  refine event_run hgd (v := .slice (some ⟨W.heap.size, 0, none⟩) 0 m) (w1 := W.alloc (.cells (madeCells z.cells (m * d.sz)) e)) (by simp [execOp, ho, hx, hy, hr])
    (h _ _ ⟨fun k hk => ?_, [], ⟨by simp, .inr ⟨W.heap.size, m, madeCells z.cells (m * d.sz), rfl, hbase, heap_alloc_new W _, Nat.zero_le _, by unfold maxLen; omega, by simp [size_madeCells], by simp⟩⟩, Reps.none _ _⟩ (HB.alloc hbase _) (World.grownBy_alloc W _ none) ⟨W.heap.size, by simp [Value.ownBlock], Nat.le_refl _⟩)
  have : W.heap.size = k := by simpa [Value.ownBlock] using hk
  subst this
  exact hfresh
end
end Kd
end Go.Proofs.YtfomlahadnihhaaW.PrintWords
namespace Go.Proofs.YtfomlahadnihhaaW.PrintWords
open Go.RowKit
namespace Kd
/-- A constant's bytes get the run time's mark: their row is only read from here on. -/
theorem run_conv {P : Program} (W : World) (T e g n c : Nat) (cur : Array Value) (ht : P.underlying T = some (.slice e)) (he : P.underlying e = some (.int .u8)) (hg : W.heap[g]? = some (.cells cur e (0, 0))) :
    ∃ W1, (convert T T (.slice (some ⟨g, 0, none⟩) n c)).run P W = .ok (.slice (some ⟨g, 0, none⟩) n c) W1 ∧ W1.heap[g]? = some (.cells cur e (cur.size, cur.size + 1)) ∧ W.grownBy W1 (some g) := by
  have hsh : W.shape? g = some (e, cur.size) := by unfold World.shape?; rw [hg]
  refine ⟨W.freeze ⟨g, cur.size, none⟩ 1, ?_, ?_, ?_⟩
  · simp [convert, run_underlying ht, run_underlying he, markStringish, hsh]
  · unfold World.freeze
    rw [if_neg (by decide)]
    obtain ⟨hlt, hge⟩ := Array.getElem?_eq_some_iff.1 hg
    rw [Array.getElem?_eq_some_iff]
    refine ⟨by simpa using hlt, ?_⟩
    rw [Array.getElem_modify, if_pos rfl, hge]
    rfl
  · unfold World.freeze
    rw [if_neg (by decide)]
    refine ⟨rfl, rfl, rfl, by simp, fun k _ hne => ?_⟩
    have hk : g ≠ k := fun e => hne (by rw [e])
    simp [Array.getElem?_modify, hk]
section
variable {P : Program} {ops : Array Oper} {rest : List Oper} {o : Oper} {a : Act} {Q : Exit → Act → World → Prop}
theorem R_conv {w0 W : World} (base : Nat) (hgd : o.guard = none) (T e : Nat) (x : Operand) (ho : o.op = .convert T T x) (ht : P.underlying T = some (.slice e)) (he : P.underlying e = some (.int .u8)) (v : Value) (xs : List Int) (ok : Nat → Prop) (hx : a.eval x = v) (hne : xs ≠ [])
    (HO : (Kd.int .u8).R e W base ok v xs) (HB : Below base w0 W) (hbase : base ≤ W.heap.size)
    (h : ∀ v1 w1, V (Kd.int .u8) e w1 base ok v1 xs → Below base w0 w1 → W.grownBy w1 v.ownBlock → (v1.ownBlock = v.ownBlock ∨ ∃ b, v1.ownBlock = some b ∧ W.heap.size ≤ b) → wpList P ops Q rest (a.put o.dst v1) w1) : wpList P ops Q (o :: rest) a W := by
  have HC := R_reads HO
  obtain ⟨hok, inner, hown, _⟩ := HO
  obtain ⟨hl, hown⟩ := hown
  rcases hown with ⟨rfl, h0⟩ | ⟨g, cap, cur, rfl, hgb, hh, hn, hcap, hcs, htk⟩
  · exact absurd (List.length_eq_zero_iff.1 h0) hne
  · obtain ⟨W1, hrun, hh1, hgr⟩ := run_conv (P := P) W T e g xs.length cap cur ht he hh
    obtain ⟨A, c, hv, hlc, hC⟩ := HC
    cases hv
    refine event_run hgd (v := .slice (some ⟨g, 0, none⟩) xs.length cap) (w1 := W1) (by simp [execOp, ho, hx, hrun]) (h _ W1 ⟨some ⟨g, 0, none⟩, cap, rfl, hlc, fun W' hW => ?_⟩ ?_ hgr (.inl rfl))
    · have hgk : g < W1.heap.size := (Array.getElem?_eq_some_iff.1 hh1).1
      have hg' := hW g (hok g (by simp [Value.ownBlock])) hgk
      rw [hh1] at hg'
      have hr := reads_of_C (d := (0 : Int)) hC
      refine C_of_reads (d := (0 : Int)) (h1 := fun _ => rfl) ⟨hr.1, hr.2.1, fun hp => ?_⟩
      obtain ⟨ad, e1, hcell⟩ := hr.2.2 hp
      cases e1
      refine ⟨_, rfl, fun j hj => ?_⟩
      have := hcell j hj
      rw [PrintWords.add_plain] at this ⊢
      simp only [World.cell?, hh] at this
      simp only [World.cell?, hg']
      exact this
    · exact HB.grown hgr hbase (fun k hk => by have : g = k := by simpa [Value.ownBlock] using hk
                                               omega)
end
end Kd
/-! A slice literal's block, and the mark of a constant's bytes -/
section
variable {P : Program} {ops : Array Oper} {rest : List Oper} {o : Oper} {a : Act} {Q : Exit → Act → World → Prop}
theorem lit_event {W : World} (hgd : o.guard = none) {N : Tmp} (_hd : o.dst = some N) {cs : Array Value} {e : TypeId} {n : Nat}
    (hrun : (execOp a.eval o).run P W = .ok (.value (.slice (some ⟨W.heap.size, 0, none⟩) n n)) (W.alloc (.cells cs e (0, 0))))
    (h : ∀ g, g = W.heap.size → ∀ w1, w1.heap[g]? = some (.cells cs e (0, 0)) → Below W.heap.size W w1 → wpList P ops Q rest (a.put o.dst (.slice (some ⟨g, 0, none⟩) n n)) w1) : wpList P ops Q (o :: rest) a W :=
  Kd.event_run hgd hrun (h _ rfl _ (blk_new W _) (below_alloc (Below.refl _ _) _))
theorem conv_event {W : World} (hgd : o.guard = none) {T e g n c : Nat} {x : Operand} {cur : Array Value} (ho : o.op = .convert T T x) (ht : P.underlying T = some (.slice e)) (he : P.underlying e = some (.int .u8)) (hx : a.eval x = .slice (some ⟨g, 0, none⟩) n c)
    (hg : W.heap[g]? = some (.cells cur e (0, 0)))
    (h : ∀ w1, w1.heap[g]? = some (.cells cur e (cur.size, cur.size + 1)) → W.grownBy w1 (some g) → wpList P ops Q rest (a.put o.dst (.slice (some ⟨g, 0, none⟩) n c)) w1) : wpList P ops Q (o :: rest) a W := by
  obtain ⟨W1, hrun, hh1, hgr⟩ := Kd.run_conv (P := P) W T e g n c cur ht he hg
  exact Kd.event_run hgd (w1 := W1) (by simp [execOp, ho, hx, hrun]) (h W1 hh1 hgr)
end
/-! An append to a literal's row that is full, marked or not -/
section
variable {P : Program} {ops : Array Oper} {rest : List Oper} {o : Oper} {a : Act} {Q : Exit → Act → World → Prop}
theorem append_full {W : World} (hgd : o.guard = none) (s x : Tmp) {T e : TypeId} (ho : o.op = .call { callee := .builtin .append, args := #[.tmp s, .tmp x], argTypes := #[T, T] })
    (ht : P.underlying T = some (.slice e)) (hinfo : (P.info? e).map (fun i => (i.zero, i.size, i.bytes)) = some (some (.int .u8 0), 1, 1))
    {xs ys : List Int} {g g2 n m : Nat} {fr fr2 : Nat × Nat} (hs : a.eval (.tmp s) = .slice (some ⟨g, 0, none⟩) n n) (hx : a.eval (.tmp x) = .slice (some ⟨g2, 0, none⟩) m m)
    (hg : W.heap[g]? = some (.cells (encs (Value.int .u8) xs).toArray e fr)) (hg2 : W.heap[g2]? = some (.cells (encs (Value.int .u8) ys).toArray e fr2)) (hn : xs.length = n) (hm : ys.length = m) (hm0 : 0 < m) (hl : n + m ≤ 1000000)
    (h : ∀ v1 w1, (Kd.int .u8).R e w1 W.heap.size (fun _ => True) v1 (xs ++ ys) → W.grownBy w1 none → wpList P ops Q rest (a.put o.dst v1) w1) : wpList P ops Q (o :: rest) a W := by
  obtain ⟨i0, hi, hz⟩ := Option.map_eq_some_iff.1 hinfo
  simp only [Prod.mk.injEq] at hz
  obtain ⟨hz0, hz1, hz2⟩ := hz
  have hlx : (encs (Value.int .u8) xs).length = n := by unfold encs; rw [List.length_map, hn]
  have hly : (encs (Value.int .u8) ys).length = m := by unfold encs; rw [List.length_map, hm]
  refine wpList_append_grows W hgd (.tmp s) (.tmp x) T ho e i0 (.int .u8 0) 1 1 ht hi hz0 hz1 hz2 rfl (by decide) (some ⟨g, 0, none⟩) n n (encs (Value.int .u8) xs) hs (fun e => by cases e) (by rw [hlx, Nat.mul_one])
    (fun b hb j u hj => by cases hb; rw [add_at, Nat.zero_add, cell_of_row W g j _ e fr hg]; simpa using hj) ⟨g2, 0, none⟩ m m (encs (Value.int .u8) ys) hx (by rw [hly, Nat.mul_one])
    (fun j u hj => by rw [add_at, Nat.zero_add, cell_of_row W g2 j _ e fr2 hg2]; simpa using hj) (fun u hu => by obtain ⟨y, _, rfl⟩ := List.mem_map.1 hu; rfl) (by omega) (by unfold maxLen; omega) (by omega) (fun v1 w1 hown hgr => h v1 w1 (Kd.R_of_own ?_ (fun _ _ => trivial)) hgr)
  rw [List.length_append, hn, hm]
  unfold encs
  rw [List.map_append]
  exact hown
end
/-! Arrays in blocks -/
section
variable {P : Program} {ops : Array Oper} {rest : List Oper} {o : Oper} {a : Act} {Q : Exit → Act → World → Prop}
/-- A whole array stored into its block. -/
theorem row_store {W : World} (hgd : o.guard = none) (ty : TypeId) (p : Tmp) (y : Operand) (ho : o.op = .store ty (.tmp p) y) (hN : o.dst = none) {cells old : Array Value} {t : TypeId} (g : Nat) (hx : a.eval (.tmp p) = .pointer (some ⟨g, 0, none⟩)) (hy : a.eval y = .agg cells)
    (hg : W.heap[g]? = some (.cells old t (0, 0))) (hi : (P.info? ty).map (·.size) = some cells.size) (hold : old.size = cells.size) (h1 : cells.all (·.oneCell') = true)
    (h : ∀ w1, w1.heap[g]? = some (.cells cells t (0, 0)) → (∀ k o', k ≠ g → W.heap[k]? = some o' → w1.heap[k]? = some o') → (∀ B w0, B ≤ g → Below B w0 W → Below B w0 w1) → w1.heap.size = W.heap.size → wpList P ops Q rest a w1) : wpList P ops Q (o :: rest) a W := by
  refine wpList_store_row hgd ty (.tmp p) y ho g cells hx hy t old hg hi hold h1 ?_
  have e : a.put o.dst undef = a := by rw [hN]; rfl
  rw [e]
  refine h _ (setRow_heap W g old cells t (0, 0) hg) (fun k o' hk ho' => (setRow_other W g k cells hk).trans ho') (fun B w0 hB hb => ⟨hb.os, hb.tape, hb.output, by simp; exact hb.size, fun k hk => (setRow_other W g k cells (by omega)).trans (hb.block k hk)⟩) (by simp)
end
/-- Numbers of 64 bits, summed. -/
def sumU (f : Nat → Int) : Nat → Int
  | 0 => 0
  | k + 1 => IntKind.u64.wrap (sumU f k + f k)
def rowU (f : Nat → Int) (n : Nat) : Array Value := ((List.range n).map fun j => Value.int .u64 (f j)).toArray
theorem rowU_size (f : Nat → Int) (n : Nat) : (rowU f n).size = n := by simp [rowU]
theorem rowU_get (f : Nat → Int) (n k : Nat) (h : k < n) : (rowU f n)[k]? = some (.int .u64 (f k)) := by
  simp [rowU, h]
theorem rowU_one (f : Nat → Int) (n : Nat) : (rowU f n).all (·.oneCell') = true := by
  simp [rowU, Value.oneCell']
theorem rowU_congr {f g : Nat → Int} {n : Nat} (h : ∀ j, j < n → f j = g j) : rowU f n = rowU g n := by
  unfold rowU
  congr 1
  exact List.map_congr_left fun j hj => by rw [h j (List.mem_range.1 hj)]
theorem rowU_set (f g : Nat → Int) (n k : Nat) (v : Int) (h : g k = v) (hne : ∀ j, j ≠ k → g j = f j) : (rowU f n).setIfInBounds k (.int .u64 v) = rowU g n := by
  apply Array.ext_getElem?
  intro j
  by_cases hj : j < n
  · rw [rowU_get g n j hj, Array.getElem?_setIfInBounds]
    by_cases e : k = j
    · subst e
      rw [if_pos rfl, if_pos (by rw [rowU_size]; exact hj), h]
    · rw [if_neg e, rowU_get f n j hj, hne j (fun x => e x.symm)]
  · rw [Array.getElem?_eq_none (by rw [Array.size_setIfInBounds, rowU_size]; omega), Array.getElem?_eq_none (by rw [rowU_size]; omega)]
def pick7 (x0 x1 x2 x3 x4 x5 x6 : Int) : Nat → Int
  | 0 => x0
  | 1 => x1
  | 2 => x2
  | 3 => x3
  | 4 => x4
  | 5 => x5
  | 6 => x6
  | _ => 0
theorem row7 (x0 x1 x2 x3 x4 x5 x6 : Int) : #[Value.int .u64 x0, .int .u64 x1, .int .u64 x2, .int .u64 x3, .int .u64 x4, .int .u64 x5, .int .u64 x6] = rowU (pick7 x0 x1 x2 x3 x4 x5 x6) 7 := rfl
def pick8 (x0 x1 x2 x3 x4 x5 x6 x7 : Int) : Nat → Int
  | 0 => x0
  | 1 => x1
  | 2 => x2
  | 3 => x3
  | 4 => x4
  | 5 => x5
  | 6 => x6
  | 7 => x7
  | _ => 0
theorem row8 (x0 x1 x2 x3 x4 x5 x6 x7 : Int) : #[Value.int .u64 x0, .int .u64 x1, .int .u64 x2, .int .u64 x3, .int .u64 x4, .int .u64 x5, .int .u64 x6, .int .u64 x7] = rowU (pick8 x0 x1 x2 x3 x4 x5 x6 x7) 8 := rfl
theorem row_C {w : World} {g : Nat} {t : TypeId} {f : Nat → Int} {n : Nat} (h : w.heap[g]? = some (.cells (rowU f n) t (0, 0))) (hn : n ≤ 9223372036854775807) : Kd.C (Kd.int .u64) w (some ⟨g, 0, none⟩) n ((List.range n).map f) := by
  refine Kd.C_of_reads (d := (0 : Int)) (h1 := fun _ => rfl) ⟨by simp, hn, fun _ => ⟨_, rfl, fun j hj => ?_⟩⟩
  rw [add_at, Nat.zero_add, blk_cell h, rowU_get _ _ _ hj]
  simp [List.getD, List.getElem?_map, List.getElem?_range hj]
section
variable {P : Program} {w : World}
/-- An element of an array of one-cell elements, by an index. -/
theorem run_index_arr {t e : TypeId} {n : Nat} {cs : Array Value} {v : Value} (k : IntKind) (j : Nat) {d : TypeDesc} (hu : P.underlying t = some (.array n e)) (he : P.underlying e = some d) (hd : (match d with | .struct _ | .array _ _ => true | _ => false) = false) (hi : (P.info? e).map (·.size) = some 1) (hj : j < n) (hv : cs[j]? = some v) (W : World) :
    (Instr.index t (.agg cs) (.int k (j : Int))).run P W = .ok v W := by
  obtain ⟨i, hi', hs⟩ := Option.map_eq_some_iff.1 hi
  have h0 : (0 : Int) ≤ (j : Int) ∧ (j : Int) < (n : Int) := by omega
  have hag : (isAgg e).run P W = .ok false W := by
    unfold isAgg
    rw [Sem.run_bind, run_underlying he W]
    cases d <;> simp_all
  simp only [Instr.index, asIntOf, Sem.run_bind, Sem.run_pure, Result.andThen_ok, run_underlying hu, if_pos h0, run_sizeOf W hi', Int.toNat_natCast, hs, show P.cellsOf e = 1 by simp [Program.cellsOf, hi', hs], Nat.mul_one, part, hag, hv, Bool.false_eq_true, if_false]
/-- An array's element by an index. -/
theorem run_index_row {t e : TypeId} {n : Nat} (f : Nat → Int) (k : IntKind) (j : Nat) (hu : P.underlying t = some (.array n e)) (he : P.plainKey e = true) (hi : (P.info? e).map (·.size) = some 1) (hj : j < n) (W : World) :
    (Instr.index t (.agg (rowU f n)) (.int k (j : Int))).run P W = .ok (.int .u64 (f j)) W := by
  obtain ⟨i, hi', hs⟩ := Option.map_eq_some_iff.1 hi
  have h0 : (0 : Int) ≤ (j : Int) ∧ (j : Int) < (n : Int) := by omega
  simp only [Instr.index, asIntOf, Sem.run_bind, Sem.run_pure, Result.andThen_ok, run_underlying hu, if_pos h0, run_sizeOf W hi', Int.toNat_natCast, hs, Nat.mul_one]
  exact run_part_plain W he (by rw [show P.cellsOf e = 1 by simp [Program.cellsOf, hi', hs], Nat.mul_one]; exact rowU_get f n j hj)
theorem eqI_cons {d : Nat} {e : TypeId} {xs ys : Array Value} {i : Nat} {is : List Nat} {k k' : IntKind} {a b : Int} {s : Bool} (he : P.plainKey e = true) (hu : P.underlying e = some (.int k')) (ha : xs[i * 1]? = some (.int k a)) (hb : ys[i * 1]? = some (.int k b))
    (hr : (Op.eqItems (d + 1) e 1 xs ys is).run P w = .ok s w) : (Op.eqItems (d + 1) e 1 xs ys (i :: is)).run P w = .ok ((a == b) && s) w := by
  simp only [Op.eqItems, Sem.run_bind, run_part_plain w he ha, run_part_plain w he hb, run_equalIn_int w d e k k' a b hu, Result.andThen_ok]
  cases h : a == b
  · simp
  · simpa using hr
theorem eqI_last {d : Nat} {e : TypeId} {xs ys : Array Value} {i : Nat} {k k' : IntKind} {a b : Int} (he : P.plainKey e = true) (hu : P.underlying e = some (.int k')) (ha : xs[i * 1]? = some (.int k a)) (hb : ys[i * 1]? = some (.int k b)) :
    (Op.eqItems (d + 1) e 1 xs ys [i]).run P w = .ok (a == b) w := by
  have h := eqI_cons (w := w) (d := d) (is := []) (s := true) he hu ha hb (by simp [Op.eqItems])
  rwa [Bool.and_true] at h
theorem eqI_of {d : Nat} {t e : TypeId} {n : Nat} {xs ys : Array Value} {r : Bool} (hu : P.underlying t = some (.array n e)) (hi : (P.info? e).map (·.size) = some 1) (h : (Op.eqItems d e 1 xs ys (List.range n)).run P w = .ok r w) :
    (Op.equalIn (d + 1) t (.agg xs) (.agg ys)).run P w = .ok r w := by
  obtain ⟨i, hi', hs⟩ := Option.map_eq_some_iff.1 hi
  rw [run_equalIn_array w d xs ys hu hi', show P.cellsOf e = 1 by simp [Program.cellsOf, hi', hs]]
  exact h
end
/-! Four stores into one block at once -/
namespace Kd
section
variable {α : Type} {d : Kd α} {e base g : Nat} {ok : Nat → Prop} {W : World} {v : Value} {xs : List α}
theorem V_far4 (h : V d e W base (fun k => ok k ∧ k ≠ g) v xs) (a0 a1 a2 a3 : Value) : V d e ((((W.setCell ⟨g, 0, none⟩ a0).setCell ⟨g, 1, none⟩ a1).setCell ⟨g, 2, none⟩ a2).setCell ⟨g, 3, none⟩ a3) base (fun k => ok k ∧ k ≠ g) v xs :=
  V_far (p := ⟨g, 3, none⟩) (V_far (p := ⟨g, 2, none⟩) (V_far (p := ⟨g, 1, none⟩) (V_far (p := ⟨g, 0, none⟩) h (fun _ hk => hk.2) a0) (fun _ hk => hk.2) a1) (fun _ hk => hk.2) a2) (fun _ hk => hk.2) a3
theorem R_far4 (h : d.R e W base (fun k => ok k ∧ k ≠ g) v xs) (a0 a1 a2 a3 : Value) : d.R e ((((W.setCell ⟨g, 0, none⟩ a0).setCell ⟨g, 1, none⟩ a1).setCell ⟨g, 2, none⟩ a2).setCell ⟨g, 3, none⟩ a3) base (fun k => ok k ∧ k ≠ g) v xs :=
  R_far (p := ⟨g, 3, none⟩) (R_far (p := ⟨g, 2, none⟩) (R_far (p := ⟨g, 1, none⟩) (R_far (p := ⟨g, 0, none⟩) h (fun _ hk => hk.2) a0) (fun _ hk => hk.2) a1) (fun _ hk => hk.2) a2) (fun _ hk => hk.2) a3
end
end Kd
theorem cells4 {w : World} {g : Nat} {t : TypeId} {a b c d : Value} (h : w.heap[g]? = some (.cells #[a, b, c, d] t (0, 0))) : (w.cell? ⟨g, 0, none⟩ = some a ∧ w.cell? ⟨g, 1, none⟩ = some b ∧ w.cell? ⟨g, 2, none⟩ = some c ∧ w.cell? ⟨g, 3, none⟩ = some d) ∧
    w.frozen? ⟨g, 0, none⟩ = false ∧ w.frozen? ⟨g, 1, none⟩ = false ∧ w.frozen? ⟨g, 2, none⟩ = false ∧ w.frozen? ⟨g, 3, none⟩ = false :=
  ⟨⟨blk_cell h 0, blk_cell h 1, blk_cell h 2, blk_cell h 3⟩, blk_frozen h 0, blk_frozen h 1, blk_frozen h 2, blk_frozen h 3⟩
/-! What is shared, beside boxes of the call's own: told apart from each -/
def OkB (P : Nat → Prop) (N : Nat) (gs : List Nat) (k : Nat) : Prop := (P k ∨ N ≤ k) ∧ ∀ g ∈ gs, k ≠ g
namespace Kd
section
variable {α : Type} {d : Kd α} {e b b' g N : Nat} {P : Nat → Prop} {gs : List Nat} {W w1 : World} {v : Value} {xs : List α}
theorem V_start (h : V d e W b (fun k => P k) v xs) : V d e W b' (OkB P N []) v xs := V_mono h (fun k hk => ⟨.inl hk, by simp⟩)
theorem V_addbox (h : V d e W b (OkB P N gs) v xs) (hg : W.heap.size ≤ g) (hb : Below W.heap.size W w1) : V d e w1 b (OkB P N (g :: gs)) v xs :=
  V_mono (V_below (V_elderB h g hg) hb) (fun k hk => ⟨hk.1.1, fun x hx => by
    rcases List.mem_cons.1 hx with rfl | hx
    · exact hk.2
    · exact hk.1.2 x hx⟩)
theorem V_drop (h : V d e W b (OkB P N (g :: gs)) v xs) : V d e W b (OkB P N gs) v xs := V_mono h (fun k hk => ⟨hk.1, fun x hx => hk.2 x (List.mem_cons_of_mem _ hx)⟩)
theorem V_call (h : V d e w1 b (fun k => (OkB P N gs k ∧ k < W.heap.size) ∨ W.heap.size ≤ k) v xs) (hN : N ≤ W.heap.size) (hgs : ∀ g ∈ gs, g < W.heap.size) : V d e w1 b' (OkB P N gs) v xs :=
  V_mono h (fun k hk => by
    rcases hk with hk | hk
    · exact hk.1
    · exact ⟨.inr (Nat.le_trans hN hk), fun g hg e => by have := hgs g hg; omega⟩)
theorem V_rowst (h : V d e W b (OkB P N gs) v xs) (hm : g ∈ gs) (ho : ∀ k o', k ≠ g → W.heap[k]? = some o' → w1.heap[k]? = some o') : V d e w1 b (OkB P N gs) v xs :=
  V_step h (fun k hk hlt => by
    rw [Array.getElem?_eq_getElem hlt]
    exact ho k _ (hk.2 g hm) (Array.getElem?_eq_getElem hlt))
theorem V_grownm (h : V d e W b (OkB P N gs) v xs) (hm : g ∈ gs) (hgr : W.grownBy w1 (some g)) : V d e w1 b (OkB P N gs) v xs :=
  V_grown h hgr (fun k hk e => hk.2 g hm (Option.some.inj e))
theorem V_end (h : V d e W b (OkB P N gs) v xs) : V d e W b' (fun k => P k ∨ N ≤ k) v xs := V_mono h (fun k hk => hk.1)
end
end Kd
/-- A literal's row, marked or not, as it is read. -/
theorem lit_C {w : World} {g e : Nat} {fr : Nat × Nat} {xs : List Int} (h : w.heap[g]? = some (.cells (encs (Value.int .u8) xs).toArray e fr)) (hn : xs.length ≤ 9223372036854775807) : Kd.C (Kd.int .u8) w (some ⟨g, 0, none⟩) xs.length xs := by
  refine Kd.C_of_reads (d := (0 : Int)) (h1 := fun _ => rfl) ⟨rfl, hn, fun _ => ⟨_, rfl, fun j hj => ?_⟩⟩
  rw [add_at, Nat.zero_add, cell_of_row w g j _ e fr h]
  simp [encs, List.getD, hj]
theorem cur_one (A : Option Addr) (n c : Nat) (p e a : Int) : (#[.slice A n c, .int .i64 p, .int .i64 e, .int .i64 a] : Array Value).all (·.oneCell') = true := by simp [Value.oneCell']
section
variable {w : World} {g t : Nat} {a b c d a' b' c' d' : Value} {k : Nat} {o : Obj}
abbrev put4 (w : World) (g : Nat) (a b c d : Value) : World := (((w.setCell ⟨g, 0, none⟩ a).setCell ⟨g, 1, none⟩ b).setCell ⟨g, 2, none⟩ c).setCell ⟨g, 3, none⟩ d
theorem put4_self (h : w.heap[g]? = some (.cells #[a, b, c, d] t (0, 0))) : (put4 w g a' b' c' d').heap[g]? = some (.cells #[a', b', c', d'] t (0, 0)) :=
  blk_put (cs := #[a', b', c', d]) (blk_put (cs := #[a', b', c, d]) (blk_put (cs := #[a', b, c, d]) (blk_put h 0 a' rfl) 1 b' rfl) 2 c' rfl) 3 d' rfl
theorem heap_far {p : Addr} {u : Value} (h : w.heap[k]? = some o) (hne : k ≠ p.block) : (w.setCell p u).heap[k]? = some o := (Below.heap_setCell w p u k hne).trans h
theorem put4_far (hne : k ≠ g) (h : w.heap[k]? = some o) : (put4 w g a' b' c' d').heap[k]? = some o := heap_far (heap_far (heap_far (heap_far h hne) hne) hne) hne
theorem put4_below {w0 : World} (h : Below w0.heap.size w0 w) (hg : w0.heap.size ≤ g) : Below w0.heap.size w0 (put4 w g a' b' c' d') := below_set (below_set (below_set (below_set h hg) hg) hg) hg
end
section
variable {P : Program} {ops : Array Oper} {rest : List Oper} {o : Oper} {a : Act} {Q : Exit → Act → World → Prop}
/-- One cell stored into a block. -/
theorem cell_store {W : World} (hgd : o.guard = none) (g i : Nat) (v : Value) {cs : Array Value} {t : TypeId} (hN : o.dst = none) (hrun : (execOp a.eval o).run P W = .ok .skip (W.setCell ⟨g, i, none⟩ v))
    (hg : W.heap[g]? = some (.cells cs t (0, 0)))
    (h : ∀ w1, w1.heap[g]? = some (.cells (cs.setIfInBounds i v) t (0, 0)) → (∀ k o', k ≠ g → W.heap[k]? = some o' → w1.heap[k]? = some o') → (∀ B w0, B ≤ g → Below B w0 W → Below B w0 w1) → wpList P ops Q rest a w1) : wpList P ops Q (o :: rest) a W := by
  refine wpList_plain hgd fun K hK => ?_
  unfold Oper.wp
  rw [hrun]
  show K (a.put o.dst undef) _
  rw [hN]
  exact hK _ _ (h _ (blk_set hg i v) (fun k o' hk ho' => heap_far (p := ⟨g, i, none⟩) ho' hk) (fun B w0 hB hb => hb.setCell hB _))
end
end Go.Proofs.YtfomlahadnihhaaW.PrintWords
