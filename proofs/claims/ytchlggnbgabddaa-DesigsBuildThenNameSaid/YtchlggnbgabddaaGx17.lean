/- Written by a program of this session for this seat: contracts of the functions that its laws reach, or the row of a law over its plain part. -/
import Derived.Test.YtchlggnbgabddaaGx0
namespace Go.Proofs.Ytchlggnbgabddaa.G
open Go.RowKit Go.Proofs.YtchlggnbgabddaaW.PrintWords Go.Proofs.YtchlggnbgabddaaW.PrintLast Go.Proofs.YtchlggnbgabddaaW.PrintMore
attribute [local go_sem] max2_int min2_int max_two min_two max_three min_three max_four min_four   -- for this text's walks alone
set_option linter.unusedVariables false
set_option linter.unusedSimpArgs false

/-! ### desigs_Build: function 16 -/
/-! Facts on rows beside other blocks -/
theorem own_form {w : World} {B : Nat} {e : TypeId} {v : Value} {n : Nat} {xs : List Value} (h : w.ownsRow B e 1 v n xs) : ∃ A c, v = .slice A n c := by
  rcases h.2 with ⟨rfl, rfl⟩ | ⟨g, cap, cur, rfl, _⟩
  · exact ⟨_, _, rfl⟩
  · exact ⟨_, _, rfl⟩
theorem own_ne_blk {w : World} {B g : Nat} {e t : TypeId} {v : Value} {n : Nat} {xs : List Value} {cs : Array Value} (h : w.ownsRow B e 1 v n xs) (hk : w.heap[g]? = some (.cells cs t (0, 0))) (hne : t ≠ e) : some g ≠ v.ownBlock := by
  rcases h.2 with ⟨rfl, rfl⟩ | ⟨k, cap, cur, rfl, _, hb, _⟩
  · simp [Value.ownBlock]
  · simp only [Value.ownBlock]
    intro e1
    cases e1
    rw [hb] at hk
    simp only [Option.some.injEq, Obj.cells.injEq] at hk
    exact hne hk.2.1.symm
theorem own_ne_map {w : World} {B m : Nat} {e : TypeId} {v : Value} {n : Nat} {xs : List Value} {es : Array MapEntry} {clock : Nat} (h : w.ownsRow B e 1 v n xs) (hk : w.heap[m]? = some (.map es clock)) : some m ≠ v.ownBlock := by
  rcases h.2 with ⟨rfl, rfl⟩ | ⟨k, cap, cur, rfl, _, hb, _⟩
  · simp [Value.ownBlock]
  · simp only [Value.ownBlock]
    intro e1
    cases e1
    rw [hb] at hk
    cases hk
theorem own_ne_own {w : World} {B e e' : Nat} {v v' : Value} {n n' : Nat} {xs xs' : List Value} (h : w.ownsRow B e 1 v n xs) (h' : w.ownsRow B e' 1 v' n' xs') (hne : e ≠ e') : v.ownBlock = none ∨ v.ownBlock ≠ v'.ownBlock := by
  rcases h.2 with ⟨rfl, rfl⟩ | ⟨k, cap, cur, rfl, _, hb, _⟩
  · exact .inl rfl
  · rcases h'.2 with ⟨rfl, rfl⟩ | ⟨k', cap', cur', rfl, _, hb', _⟩
    · exact .inr (by simp [Value.ownBlock])
    · refine .inr ?_
      simp only [Value.ownBlock]
      intro e1
      cases e1
      rw [hb] at hb'
      simp only [Option.some.injEq, Obj.cells.injEq] at hb'
      exact hne hb'.2.1
theorem lit_reads {w : World} {g e : Nat} {fr : Nat × Nat} {k : IntKind} {xs : List Int} (h : w.heap[g]? = some (.cells (encs (Value.int k) xs).toArray e fr)) (hn : xs.length ≤ 9223372036854775807) : ReadsOf (Value.int k) (0 : Int) w (some ⟨g, 0, none⟩) xs.length xs := by
  refine ⟨rfl, hn, fun _ => ⟨_, rfl, fun j hj => ?_⟩⟩
  rw [add_at, Nat.zero_add, cell_of_row w g j _ e fr h]
  simp [encs, List.getD, hj]
theorem own_ne_obj {w : World} {B k e : Nat} {v : Value} {n : Nat} {xs : List Value} {o : Obj} (h : w.ownsRow B e 1 v n xs) (hk : w.heap[k]? = some o) (ho : ∀ cs fr, o ≠ .cells cs e fr) : some k ≠ v.ownBlock := by
  rcases h.2 with ⟨rfl, rfl⟩ | ⟨j, cap, cur, rfl, _, hb, _⟩
  · simp [Value.ownBlock]
  · simp only [Value.ownBlock]
    intro e1
    cases e1
    rw [hb] at hk
    exact ho _ _ (Option.some.inj hk).symm
theorem own_far {w w' : World} {B e g : Nat} {v : Value} {n : Nat} {xs : List Value} (h : w.ownsRow B e 1 v n xs) (hne : some g ≠ v.ownBlock) (ho : ∀ k o', k ≠ g → w.heap[k]? = some o' → w'.heap[k]? = some o') : w'.ownsRow B e 1 v n xs :=
  own_move h (fun k hk => by
    have hlt := (h.lt k hk).2
    rw [Array.getElem?_eq_getElem hlt]
    exact ho k _ (fun e => hne (by rw [← e]; exact hk.symm)) (Array.getElem?_eq_getElem hlt))
theorem keep_size {w w' : World} {g : Nat} {o : Obj} (ho : ∀ k o', k ≠ g → w.heap[k]? = some o' → w'.heap[k]? = some o') (hg : w'.heap[g]? = some o) : w.heap.size ≤ w'.heap.size := by
  by_cases h : w.heap.size = 0
  · omega
  have hlt : w.heap.size - 1 < w.heap.size := by omega
  by_cases e : w.heap.size - 1 = g
  · have := (Array.getElem?_eq_some_iff.1 hg).1
    omega
  · have := (Array.getElem?_eq_some_iff.1 (ho _ _ e (Array.getElem?_eq_getElem hlt))).1
    omega
/-- All but block g and rows of bytes stays. -/
def Keep5 (g : Nat) (w w' : World) : Prop := ∀ k o, k ≠ g → (∀ cs fr, o ≠ .cells cs 5 fr) → w.heap[k]? = some o → w'.heap[k]? = some o
theorem own_below {w w' : World} {B e : Nat} {v : Value} {n : Nat} {xs : List Value} (h : w.ownsRow B e 1 v n xs) (hb : Below w.heap.size w w') : w'.ownsRow B e 1 v n xs := own_move h (fun k hk => hb.block k (h.lt k hk).2)
set_option maxHeartbeats 8000000 in
set_option maxRecDepth 100000 in
theorem build1.calls (B : Nat) (w0 : World) (g : Nat) (x : ByteArray) (T : List Int) (v : Value) (w : World) (hB : B ≤ g) (hK : w.heap[g]? = some (.cells #[v] 22 (0, 0))) (hT : w.ownsRow B 5 1 v T.length (nums .u8 T)) (hb : Below B w0 w) (hl : T.length + x.size + 1 ≤ 70368744177664) :
    Calls Try.prog 25 #[.string x, .pointer (some ⟨g, 0, none⟩)] w fun e w' => e = .returned (.int .i64 (T.length : Int)) ∧ ∃ v', w'.heap[g]? = some (.cells #[v'] 22 (0, 0)) ∧ w'.ownsRow B 5 1 v' (T ++ bytesOf x ++ [0]).length (nums .u8 (T ++ bytesOf x ++ [0])) ∧ Below B w0 w' ∧ w.heap.size ≤ w'.heap.size ∧ Keep5 g w w' := by
  have K := Aside0.mk hK
  have HT := Aside0.mk hT
  have HB := Aside0.mk hb
  have NE := Aside0.mk (own_ne_blk hT hK (by decide))
  have BS : Aside0 (B ≤ w.heap.size) := ⟨Nat.le_of_lt (Nat.lt_of_le_of_lt hB (blk_lt hK))⟩
  obtain ⟨A, c, rfl⟩ := own_form hT
  have hc : w.cell? ⟨g, 0, none⟩ = some (.slice A T.length c) := (blk_cell hK 0).trans rfl
  clear hK hT hb
  go_enter Try.func25, Try.ntmps25
  go_wp2_with (first
    | ((with_reducible refine gate_dst (N := 9) rfl ?_); go_loud (refine print_append_str (w0 := w0) B ?hg (.tmp 7) (.tmp 8) 22 9 5 ?hop Try.underlying22 Try.underlying9 (by kernel_rfl) (.slice A T.length c) T x ?hs ?hx HT.out HB.out BS.out (by omega) ?_; (case hg => rfl); (case hop => rfl); (case hs => rfl); (case hx => rfl); intro v1 w1 hown hb1 hgr1; have K1 := Aside0.mk (blk_grown K.out hgr1 NE.out); have HT1 := Aside0.mk hown; have HB1 := Aside0.mk hb1; have KP1 : Aside0 (Keep5 g w w1) := ⟨fun k o _ ho hk => blk_grown hk hgr1 (own_ne_obj HT.out hk ho)⟩; have SZ1 := Aside0.mk hgr1.size; have BS1 := Aside0.mk (Nat.le_trans BS.out hgr1.size); clear hown hb1 hgr1 hc))
    | ((with_reducible refine gate_dst (N := 10) rfl ?_); go_loud (refine lit_event ?hg (N := 10) ?hd (cs := (encs (Value.int .u8) [0]).toArray) (e := 5) (n := 1) ?hr ?_; (case hd => rfl); (case hg => rfl); (case hr => first | (go_simp; done) | (go_simp; rfl)); intro g10 hg10 w2 hk10 hb; have K2 := Aside0.mk (blk_below K1.out hb); have HT2 := Aside0.mk (own_below HT1.out hb); have HB2 := Aside0.mk (below_then HB1.out BS1.out hb); have L10 := Aside0.mk hk10; have KP2 : Aside0 (Keep5 g w w2) := ⟨fun k o h1 h2 h3 => blk_below (KP1.out k o h1 h2 h3) hb⟩; have SZ2 := Aside0.mk (Nat.le_trans SZ1.out hb.size); have BS2 := Aside0.mk (Nat.le_trans BS1.out hb.size)))
    | ((with_reducible refine gate_dst (N := 11) rfl ?_); go_loud (refine print_append_row_of (w0 := w0) (Value.int .u8) 0 B ?hg (.tmp 9) (.tmp 10) 22 5 (.int .u8 0) 1 ?hop Try.underlying22 (by kernel_rfl) rfl (by decide) (fun _ => rfl) v1 (T ++ bytesOf x) [0] (some ⟨g10, 0, none⟩) 1 1 ?hs ?hx HT2.out (lit_reads L10.out (by decide)) HB2.out BS2.out (by rw [List.length_append, bytesOf_length]; omega) ?_; (case hg => rfl); (case hop => rfl); (case hs => rfl); (case hx => rfl); intro v3 w3 hown hb3 hgr3 hat; have K3 := Aside0.mk (blk_grown K2.out hgr3 (own_ne_blk HT2.out K2.out (by decide))); have HT3 := Aside0.mk hown; have HB3 := Aside0.mk hb3; have hc3 : w3.cell? ⟨g, 0, none⟩ = some (.slice A T.length c) := (blk_cell K3.out 0).trans rfl; have hf3 := blk_frozen K3.out 0; have KP3 : Aside0 (Keep5 g w w3) := ⟨fun k o h1 h2 h3 => blk_grown (KP2.out k o h1 h2 h3) hgr3 (own_ne_obj HT2.out (KP2.out k o h1 h2 h3) h2)⟩; have SZ3 := Aside0.mk (Nat.le_trans SZ2.out hgr3.size); obtain ⟨A3, c3, ev3⟩ := own_form hown; subst ev3; clear hown hb3 hgr3 hat))
    | ((with_reducible refine gate_store (t := 22) (p := 1) rfl ?_); go_loud (refine cell_store rfl g 0 (.slice A3 (T ++ bytesOf x ++ [0]).length c3) rfl ?hr K3.out ?_; (case hr => first | (go_simp; done) | (go_simp; rfl)); intro w4 hk hoth hb4; have HT4 := Aside0.mk (own_far HT3.out (own_ne_blk HT3.out K3.out (by decide)) hoth); have K4 := Aside0.mk hk; have HB4 := Aside0.mk (hb4 _ _ hB HB3.out); have KP4 : Aside0 (Keep5 g w w4) := ⟨fun k o h1 h2 h3 => hoth k o h1 (KP3.out k o h1 h2 h3)⟩; have SZ4 : Aside0 (w.heap.size ≤ w4.heap.size) := ⟨Nat.le_trans SZ3.out (keep_size hoth hk)⟩; clear hk hoth hb4)))
  go_ret
  exact ⟨rfl, _, K4.out, HT4.out, HB4.out, SZ4.out, KP4.out⟩
/-! What was met -/
abbrev Met := List (List UInt8 × Int)
def metAt (m : Met) (s : List UInt8) : Option Int := (m.find? (fun p => p.1 == s)).map (·.2)
def MetD (D : DataW Unit) (m : Met) : Prop := Maps.IsMap D ∧ ∀ s, Maps.has D (.string s) = (metAt m s).isSome ∧ ∀ v, metAt m s = some v → D.atKey (.string s) (.lit (.int .i64 0)) = .lit (.int .i64 v)
theorem MetD_nil : MetD (.map []) [] := ⟨⟨[], rfl⟩, fun s => ⟨rfl, fun v h => by cases h⟩⟩
theorem metAt_cons (m : Met) (s t : List UInt8) (v : Int) : metAt ((s, v) :: m) t = if s = t then some v else metAt m t := by
  unfold metAt
  rw [List.find?_cons]
  by_cases h : s = t
  · simp [h]
  · rw [show ((s, v).1 == t) = false from by simpa using h, if_neg h]
theorem MetD_put {D : DataW Unit} {m : Met} (h : MetD D m) (s : List UInt8) (v : Int) : MetD (D.put (.string s) (.lit (.int .i64 v))) ((s, v) :: m) := by
  refine ⟨by obtain ⟨es, e⟩ := h.1; subst e; exact ⟨_, rfl⟩, fun t => ?_⟩
  rw [metAt_cons]
  by_cases e : s = t
  · subst e
    rw [if_pos rfl]
    exact ⟨Maps.has_put_same h.1 (show WideAt.IsKeyLit (.string s) from trivial) _, fun v' hv => by rw [← Option.some.inj hv]; exact Maps.atKey_put_same h.1 (show WideAt.IsKeyLit (.string s) from trivial) _ _⟩
  · rw [if_neg e]
    have hne : Lit.string t ≠ Lit.string s := fun x => e (by cases x; rfl)
    exact ⟨(Maps.has_put_other hne _).trans (h.2 t).1, fun v' hv => (Maps.atKey_put_other hne _ _).trans ((h.2 t).2 v' hv)⟩
/-- One name more. -/
def bst1 (st : List Int × Met × List Int) (x : ByteArray) : Option (List Int × Met × List Int) :=
  if x.size ≤ 70368744177664 ∧ st.2.2.length < 8796093022208 ∧ st.1.length + x.size + 1 ≤ 70368744177664 then
    (match metAt st.2.1 x.data.toList with
     | some v => some (st.1, st.2.1, st.2.2 ++ [v])
     | none => some (st.1 ++ bytesOf x ++ [0], (x.data.toList, (st.1.length : Int)) :: st.2.1, st.2.2 ++ [(st.1.length : Int)]))
  else none
def bfirst (l : List ByteArray) : Nat → Option (List Int × Met × List Int)
  | 0 => some ([], [], [])
  | n + 1 => (bfirst l n).bind fun st => bst1 st (rdOf ByteArray.empty l (n : Int))
theorem bfirst_some {l : List ByteArray} : ∀ (d n : Nat) (r), bfirst l (n + d) = some r → ∃ s, bfirst l n = some s
  | 0, n, r, h => ⟨r, h⟩
  | d + 1, n, r, h => by
    obtain ⟨s, hs, _⟩ := Option.bind_eq_some_iff.mp (show (bfirst l (n + d)).bind _ = some r from h)
    exact bfirst_some d n s hs
theorem map_event {P : Program} {ops : Array Oper} {rest : List Oper} {o : Oper} {a : Act} {Q : Exit → Act → World → Prop} {W : World} (hgd : o.guard = none) {N : Tmp} (_hd : o.dst = some N) {k e : TypeId}
    (hrun : (execOp a.eval o).run P W = .ok (.value (.map (some W.heap.size))) (W.alloc (.map #[] 0)))
    (h : ∀ m, m = W.heap.size → ∀ w1 : World, w1.ownsMap P k (plainElem (H := Unit) P e) m 0 (.map []) → Below W.heap.size W w1 → wpList P ops Q rest (a.put o.dst (.map (some m))) w1) : wpList P ops Q (o :: rest) a W :=
  Kd.event_run hgd hrun (h _ rfl _ (World.ownsMap_made W P k _) (below_alloc (Below.refl _ _) _))
theorem zero3 (w : World) : (zeroValue 3).run Try.prog w = .ok (.int .i64 0) w := by kernel_rfl
theorem map_keep5 {P : Program} {k e : TypeId} {g m n : Nat} {w w' : World} {D : DataW Unit} (h : w.ownsMap P k (plainElem P e) m n D) (hk : Keep5 g w w') (hne : m ≠ g) : w'.ownsMap P k (plainElem P e) m n D := by
  obtain ⟨es, clock, hb, r⟩ := h
  exact ⟨es, clock, hk m _ hne (fun cs fr e => by cases e) hb, r⟩
theorem map_ne_blk {P : Program} {k e : TypeId} {g m n : Nat} {w : World} {D : DataW Unit} {cs : Array Value} {t : TypeId} (h : w.ownsMap P k (plainElem P e) m n D) (hg : w.heap[g]? = some (.cells cs t (0, 0))) : m ≠ g := by
  rintro rfl
  obtain ⟨es, clock, hb, _⟩ := h
  rw [hb] at hg
  cases hg
theorem map_below {P : Program} {k e : TypeId} {m n : Nat} {w w' : World} {D : DataW Unit} (h : w.ownsMap P k (plainElem P e) m n D) (hb : Below w.heap.size w w') : w'.ownsMap P k (plainElem P e) m n D := by
  obtain ⟨es, clock, hm, r⟩ := h
  exact ⟨es, clock, blk_below hm hb, r⟩
theorem own_keep5 {w w' : World} {B e g : Nat} {v : Value} {n : Nat} {xs : List Value} (h : w.ownsRow B e 1 v n xs) (he : e ≠ 5) (hk : Keep5 g w w') (hne : some g ≠ v.ownBlock) : w'.ownsRow B e 1 v n xs := by
  rcases h.2 with ⟨rfl, rfl⟩ | ⟨j, cap, cur, rfl, r1, hb, r2⟩
  · exact ⟨h.1, .inl ⟨rfl, rfl⟩⟩
  · exact ⟨h.1, .inr ⟨j, cap, cur, rfl, r1, hk j _ (fun e1 => hne (by rw [e1]; rfl)) (fun cs fr e1 => he (by cases e1; rfl)) hb, r2⟩⟩
theorem look_ok {P : Program} (w : World) {ops : Array Oper} {rest : List Oper} {o : Oper} {a : Act} {Q : Exit → Act → World → Prop} (hg : o.guard = none) (mo xo : Operand) (t : TypeId) (hop : o.op = Op.lookup t mo xo true)
    (k e : TypeId) (K : Maps.Keyed P k) (ht : P.underlying t = some (.map k e)) (he : P.underlying e = some (.int .i64)) (hz : (zeroValue e).run P w = .ok (.int .i64 0) w) (b n : Nat) (D : DataW Unit)
    (hm : a.eval mo = .map (some b)) (hown : w.ownsMap P k (plainElem P e) b n D) (key : Value) (kl : Lit) (hx : a.eval xo = key) (hkey : keyOf P k key = some kl) (c : Int) (bb : Bool) (hb : Maps.has D kl = bb) (hv : D.atKey kl (.lit (.int .i64 0)) = .lit (.int .i64 c))
    (hK : wpList P ops Q rest (a.put o.dst (.tuple #[.int .i64 c, .bool bb])) w) : wpList P ops Q (o :: rest) a w := by
  refine wpList_lookup_own_ok_int w hg mo xo t hop k e .i64 K ht he hz b n D hm hown key kl hx hkey (fun c' hat _ => ?_)
  rw [hv] at hat
  injection hat with e1
  injection e1 with _ e2
  subst e2
  rw [hb]
  exact hK
theorem look_one {P : Program} (w : World) {ops : Array Oper} {rest : List Oper} {o : Oper} {a : Act} {Q : Exit → Act → World → Prop} (hg : o.guard = none) (mo xo : Operand) (t : TypeId) (hop : o.op = Op.lookup t mo xo false)
    (k e : TypeId) (K : Maps.Keyed P k) (ht : P.underlying t = some (.map k e)) (he : P.underlying e = some (.int .i64)) (hz : (zeroValue e).run P w = .ok (.int .i64 0) w) (b n : Nat) (D : DataW Unit)
    (hm : a.eval mo = .map (some b)) (hown : w.ownsMap P k (plainElem P e) b n D) (key : Value) (kl : Lit) (hx : a.eval xo = key) (hkey : keyOf P k key = some kl) (c : Int) (hv : D.atKey kl (.lit (.int .i64 0)) = .lit (.int .i64 c))
    (hK : wpList P ops Q rest (a.put o.dst (.int .i64 c)) w) : wpList P ops Q (o :: rest) a w := by
  refine wpList_lookup_own_int w hg mo xo t hop k e .i64 K ht he hz b n D hm hown key kl hx hkey (fun c' hat _ => ?_)
  rw [hv] at hat
  injection hat with e1
  injection e1 with _ e2
  subst e2
  exact hK
theorem map_store {P : Program} (w : World) {ops : Array Oper} {rest : List Oper} {o : Oper} {a : Act} {Q : Exit → Act → World → Prop} (hg : o.guard = none) (mo xo vo : Operand) (t : TypeId) (hop : o.op = Op.mapUpdate t mo xo vo) (hN : o.dst = none)
    (k e : TypeId) (K : Maps.Keyed P k) (ht : P.underlying t = some (.map k e)) (b n : Nat) (D : DataW Unit) (hm : a.eval mo = .map (some b)) (hown : w.ownsMap P k (plainElem P e) b n D) (hn : n < maxLen) (key : Value) (kl : Lit) (hx : a.eval xo = key) (hkey : keyOf P k key = some kl)
    (val : Value) (hv : a.eval vo = val) {d : DataW Unit} (hval : plainElem P e val = some (d, []))
    (hK : ∀ w', w'.ownsMap P k (plainElem P e) b (n + 1) (D.put kl d) → w.grownBy w' (some b) → wpList P ops Q rest a w') : wpList P ops Q (o :: rest) a w :=
  wpList_mapUpdate_own w hg mo xo vo t hop k e K ht (plainElem P e) b n D hm hown hn key val kl hx hv hkey d [] hval (fun w' h1 h2 => by
    rw [hN]
    exact hK w' h1 h2)
theorem row_ne_map {P : Program} {k e : TypeId} {m n : Nat} {w : World} {D : DataW Unit} {B e' : Nat} {v : Value} {n' : Nat} {xs : List Value} (ho : w.ownsRow B e' 1 v n' xs) (h : w.ownsMap P k (plainElem P e) m n D) : v.ownBlock = none ∨ v.ownBlock ≠ some m := by
  obtain ⟨es, clock, hb, _⟩ := h
  exact .inr (fun e => own_ne_map ho hb e.symm)
theorem map_grown {P : Program} {k e : TypeId} {m n : Nat} {w w' : World} {D : DataW Unit} (h : w.ownsMap P k (plainElem P e) m n D) {B e' : Nat} {v : Value} {n' : Nat} {xs : List Value} (hgr : w.grownBy w' v.ownBlock) (ho : w.ownsRow B e' 1 v n' xs) : w'.ownsMap P k (plainElem P e) m n D := by
  refine h.kept hgr ?_
  obtain ⟨es, clock, hb, _⟩ := h
  exact own_ne_map ho hb
set_option maxHeartbeats 8000000 in
set_option maxRecDepth 100000 in
theorem first.calls (w0 : World) (g : Nat) (A0 : Option Addr) (c0 : Nat) (l0 : List ByteArray) (T : List Int) (M : Met) (I : List Int) (w : World) (hg : w0.heap.size ≤ g) (hC : Kd.C Kd.string w0 A0 l0.length l0) (hK : w.heap[g]? = some (.cells #[.slice none 0 0] 22 (0, 0))) (hb : Below w0.heap.size w0 w) (h : bfirst l0 l0.length = some (T, M, I)) :
    Calls Try.prog 24 #[.slice A0 l0.length c0, .func (.func 25) #[] #[.pointer (some ⟨g, 0, none⟩)]] w fun e w' => ∃ vi v', e = .returned vi ∧ w'.heap[g]? = some (.cells #[v'] 22 (0, 0)) ∧ w'.ownsRow w0.heap.size 5 1 v' T.length (nums .u8 T) ∧ w'.ownsRow w0.heap.size 3 1 vi I.length (nums .i64 I) ∧ Below w0.heap.size w0 w' := by
  have K := Aside0.mk hK
  have HC := Aside0.mk hC
  have HB := Aside0.mk hb
  have H := Aside0.mk h
  have hlen : l0.length ≤ 9223372036854775807 := hC.2.1
  clear hK hC hb h
  go_enter Try.func24, Try.ntmps24
  go_wp2_with (first
    | ((with_reducible refine gate_dst (N := 11) rfl ?_); go_loud (refine map_event (k := 9) (e := 3) ?hg (N := 11) ?hd ?hr ?_; (case hd => rfl); (case hg => rfl); (case hr => first | (go_simp; done) | (go_simp; rfl)); intro m hm w1 hown hb1; have K1 := Aside0.mk (blk_below K.out hb1); have HM1 := Aside0.mk hown; have HB1 := Aside0.mk (below_then HB.out HB.out.size hb1); have BM : Aside0 (w0.heap.size ≤ m) := ⟨by rw [hm]; exact HB.out.size⟩; clear hown hb1 hm)))
  go_loopw [6, 14] (fun vi i wr => ∃ j : Nat, ∃ Tj Mj Ij, ∃ D : DataW Unit, ∃ v', j ≤ l0.length ∧ i = .int .i64 (j : Int) ∧ Aside0 (bfirst l0 j = some (Tj, Mj, Ij)) ∧ Aside0 (MetD D Mj) ∧ Aside0 (wr.ownsMap Try.prog 9 (plainElem (H := Unit) Try.prog 3) m j D) ∧ Aside0 (wr.heap[g]? = some (.cells #[v'] 22 (0, 0))) ∧ Aside0 (wr.ownsRow w0.heap.size 5 1 v' Tj.length (nums .u8 Tj)) ∧ Aside0 (wr.ownsRow w0.heap.size 3 1 vi Ij.length (nums .i64 Ij)) ∧ Aside0 (Below w0.heap.size w0 wr)) (fun _ i _ => l0.length - (intOf i).toNat)
  case atStart => exact ⟨0, _, _, _, _, _, by omega, rfl, ⟨rfl⟩, ⟨MetD_nil⟩, HM1, K1, ⟨⟨rfl, .inl ⟨rfl, rfl⟩⟩⟩, ⟨⟨rfl, .inl ⟨rfl, rfl⟩⟩⟩, HB1⟩
  case round =>
    clear K1 HM1 HB1
    obtain ⟨j, Tj, Mj, Ij, D, v', hj, rfl, HA, HD, HM, K, HT, HI, HB⟩ := hrel
    by_cases hlt : j < l0.length
    · obtain ⟨sn, hsn⟩ := bfirst_some (l0.length - (j + 1)) (j + 1) _ (by rw [show j + 1 + (l0.length - (j + 1)) = l0.length by omega]; exact H.out)
      have hst : bst1 (Tj, Mj, Ij) (rdOf ByteArray.empty l0 (j : Int)) = some sn := by
        have := hsn
        rw [bfirst, HA.out, Option.bind_some] at this
        exact this
      have HS := Aside0.mk hsn
      obtain ⟨ad, eA, hx⟩ := Kd.at_string (Kd.C_below HC.out HB.out) (j : Int) (by omega) (by omega)
      rw [Int.toNat_natCast] at hx
      subst eA
      generalize hX : rdOf ByteArray.empty l0 (j : Int) = X at hst hx
      clear hX hsn
      obtain ⟨AI, cI, eI⟩ := own_form HI.out
      subst eI
      unfold bst1 at hst
      by_cases hbd : X.size ≤ 70368744177664 ∧ Ij.length < 8796093022208 ∧ Tj.length + X.size + 1 ≤ 70368744177664
      case neg => rw [if_neg hbd] at hst; cases hst
      rw [if_pos hbd] at hst
      obtain ⟨b1, b2, b3⟩ := hbd
      have HX : Aside0 (X.size ≤ maxLen) := ⟨by simp only [maxLen]; omega⟩
      have c1 : decide ((j : Int) < (l0.length : Int)) = true := decide_eq_true (by omega)
      have hhas := (HD.out.2 X.data.toList).1
      have NEI := Aside0.mk (own_ne_blk HI.out K.out (by decide))
      have NEM := Aside0.mk (map_ne_blk HM.out K.out)
      cases hm : metAt Mj X.data.toList with
      | some v =>
        rw [hm] at hst hhas
        have hval := (HD.out.2 X.data.toList).2 v hm
        have esn := Option.some.inj hst
        subst esn
        have hhas' : Maps.has D (.string X.data.toList) = true := hhas
        go_wp2_with (first
        | ((with_reducible refine gate_dst (N := 21) rfl ?_); (refine look_ok wr ?hg (.tmp 19) (.tmp 20) 46 ?hop 9 3 (Maps.string_keyed Try.underlying9) Try.underlying46 Try.underlying3 (zero3 wr) m j D ?hm HM.out (.string X) (.string X.data.toList) ?hx (WideMaps.keyOf_string_mk Try.underlying9 HX.out) v true hhas' hval ?_; (case hg => rfl); (case hop => rfl); (case hm => rfl); (case hx => rfl)))
        | ((with_reducible refine gate_dst (N := 34) rfl ?_); (refine look_one wr ?hg (.tmp 32) (.tmp 33) 46 ?hop 9 3 (Maps.string_keyed Try.underlying9) Try.underlying46 Try.underlying3 (zero3 wr) m j D ?hm HM.out (.string X) (.string X.data.toList) ?hx (WideMaps.keyOf_string_mk Try.underlying9 HX.out) v hval ?_; (case hg => rfl); (case hop => rfl); (case hm => rfl); (case hx => rfl)))
        | ((with_reducible refine gate_dst (N := 35) rfl ?_); go_loud (refine lit_event ?hg (N := 35) ?hd (cs := (encs (Value.int .i64) [v]).toArray) (e := 3) (n := 1) ?hr ?_; (case hd => rfl); (case hg => rfl); (case hr => first | (go_simp; done) | (go_simp; rfl)); intro g35 hg35 w5 hk35 hb5; have K5 := Aside0.mk (blk_below K.out hb5); have HT5 := Aside0.mk (own_below HT.out hb5); have HI5 := Aside0.mk (own_below HI.out hb5); have HM5 := Aside0.mk (map_below HM.out hb5); have HB5 := Aside0.mk (below_then HB.out HB.out.size hb5); have L35 := Aside0.mk hk35; clear hk35 hb5 hg35))
        | ((with_reducible refine gate_dst (N := 36) rfl ?_); go_loud (refine print_append_row_of (w0 := w0) (Value.int .i64) 0 w0.heap.size ?hg (.tmp 31) (.tmp 35) 30 3 (.int .i64 0) 8 ?hop Try.underlying30 (by kernel_rfl) rfl (by decide) (fun _ => rfl) (.slice AI Ij.length cI) Ij [v] (some ⟨g35, 0, none⟩) 1 1 ?hs ?hx HI5.out (lit_reads L35.out (by simp)) HB5.out HB5.out.size (by omega) ?_; (case hg => rfl); (case hop => rfl); (case hs => rfl); (case hx => rfl); intro v6 w6 hown hb6 hgr6 hat6; have K6 := Aside0.mk (blk_grown K5.out hgr6 (own_ne_blk HI5.out K5.out (by decide))); have HT6 := Aside0.mk (HT5.out.kept hgr6 (own_ne_own HT5.out HI5.out (by decide))); have HI6 := Aside0.mk hown; have HM6 := Aside0.mk (map_grown HM5.out hgr6 HI5.out); have HB6 := Aside0.mk hb6; clear hown hb6 hgr6 hat6)))
        go_roundw
        case rel => exact ⟨j + 1, _, _, _, _, _, by omega, by go_num, HS, HD, ⟨HM6.out.mono (Nat.le_succ j)⟩, K6, HT6, HI6, HB6⟩
        case measure => simp [intOf]; omega
      | none =>
        rw [hm] at hst hhas
        have esn := Option.some.inj hst
        subst esn
        have hhas' : Maps.has D (.string X.data.toList) = false := hhas
        have hval0 : D.atKey (.string X.data.toList) (.lit (.int .i64 0)) = .lit (.int .i64 0) := Maps.atKey_of_not_has hhas' _
        have HD2 := Aside0.mk (MetD_put HD.out X.data.toList (Tj.length : Int))
        have hval1 : (D.put (.string X.data.toList) (.lit (.int .i64 (Tj.length : Int)))).atKey (.string X.data.toList) (.lit (.int .i64 0)) = .lit (.int .i64 (Tj.length : Int)) := (HD2.out.2 X.data.toList).2 _ (by rw [metAt_cons, if_pos rfl])
        have hpl : plainElem (H := Unit) Try.prog 3 (.int .i64 (Tj.length : Int)) = some (.lit (.int .i64 (Tj.length : Int)), []) := plainElem_int Try.underlying3 (by simp [Lit.wf, IntKind.min, IntKind.max, IntKind.bits, IntKind.signed]; omega)
        go_wp2_with (first
        | ((with_reducible refine gate_dst (N := 21) rfl ?_); (refine look_ok wr ?hg (.tmp 19) (.tmp 20) 46 ?hop 9 3 (Maps.string_keyed Try.underlying9) Try.underlying46 Try.underlying3 (zero3 wr) m j D ?hm HM.out (.string X) (.string X.data.toList) ?hx (WideMaps.keyOf_string_mk Try.underlying9 HX.out) 0 false hhas' hval0 ?_; (case hg => rfl); (case hop => rfl); (case hm => rfl); (case hx => rfl)))
        | (go_at_call 25; (refine (build1.calls w0.heap.size w0 g X Tj v' wr hg K.out HT.out HB.out (by omega)).mono ?_); rintro e w2 ⟨rfl, v2, hk2, ht2, hb2, hs2, hkp⟩; have K2 := Aside0.mk hk2; have HT2 := Aside0.mk ht2; have HB2 := Aside0.mk hb2; have HM2 := Aside0.mk (map_keep5 HM.out hkp NEM.out); have HI2 := Aside0.mk (own_keep5 HI.out (by decide) hkp NEI.out); clear hk2 ht2 hb2 hs2 hkp)
        | (at_mapUpdate; refine map_store w2 ?hg (.tmp 26) (.tmp 27) (.tmp 30) 46 ?hop ?hN 9 3 (Maps.string_keyed Try.underlying9) Try.underlying46 m j D ?hm HM2.out (Nat.lt_of_lt_of_le hlt hlen) (.string X) (.string X.data.toList) ?hx (WideMaps.keyOf_string_mk Try.underlying9 HX.out) (.int .i64 (Tj.length : Int)) ?hv hpl ?_; (case hN => rfl); (case hv => rfl); (case hg => rfl); (case hop => rfl); (case hm => rfl); (case hx => rfl); intro w3 hm3 hgr3; have K3 := Aside0.mk (blk_grown K2.out hgr3 (fun e => map_ne_blk HM2.out K2.out (Option.some.inj e).symm)); have HT3 := Aside0.mk (HT2.out.kept hgr3 (row_ne_map HT2.out HM2.out)); have HI3 := Aside0.mk (HI2.out.kept hgr3 (row_ne_map HI2.out HM2.out)); have HM3 := Aside0.mk hm3; have HB3 := Aside0.mk (HB2.out.grown hgr3 HB2.out.size (fun k hk => by injection hk with hk; rw [← hk]; exact BM.out)); clear hm3 hgr3)
        | ((with_reducible refine gate_dst (N := 34) rfl ?_); (refine look_one w3 ?hg (.tmp 32) (.tmp 33) 46 ?hop 9 3 (Maps.string_keyed Try.underlying9) Try.underlying46 Try.underlying3 (zero3 w3) m (j + 1) (D.put (.string X.data.toList) (.lit (.int .i64 (Tj.length : Int)))) ?hm HM3.out (.string X) (.string X.data.toList) ?hx (WideMaps.keyOf_string_mk Try.underlying9 HX.out) (Tj.length : Int) hval1 ?_; (case hg => rfl); (case hop => rfl); (case hm => rfl); (case hx => rfl)))
        | ((with_reducible refine gate_dst (N := 35) rfl ?_); (refine lit_event ?hg (N := 35) ?hd (cs := (encs (Value.int .i64) [(Tj.length : Int)]).toArray) (e := 3) (n := 1) ?hr ?_; (case hd => rfl); (case hg => rfl); (case hr => first | (go_simp; done) | (go_simp; rfl)); intro g35 hg35 w5 hk35 hb5; have K5 := Aside0.mk (blk_below K3.out hb5); have HT5 := Aside0.mk (own_below HT3.out hb5); have HI5 := Aside0.mk (own_below HI3.out hb5); have HM5 := Aside0.mk (map_below HM3.out hb5); have HB5 := Aside0.mk (below_then HB3.out HB3.out.size hb5); have L35 := Aside0.mk hk35; clear hk35 hb5 hg35))
        | ((with_reducible refine gate_dst (N := 36) rfl ?_); (refine print_append_row_of (w0 := w0) (Value.int .i64) 0 w0.heap.size ?hg (.tmp 31) (.tmp 35) 30 3 (.int .i64 0) 8 ?hop Try.underlying30 (by kernel_rfl) rfl (by decide) (fun _ => rfl) (.slice AI Ij.length cI) Ij [(Tj.length : Int)] (some ⟨g35, 0, none⟩) 1 1 ?hs ?hx HI5.out (lit_reads L35.out (by simp)) HB5.out HB5.out.size (by omega) ?_; (case hg => rfl); (case hop => rfl); (case hs => rfl); (case hx => rfl); intro v6 w6 hown hb6 hgr6 hat6; have K6 := Aside0.mk (blk_grown K5.out hgr6 (own_ne_blk HI5.out K5.out (by decide))); have HT6 := Aside0.mk (HT5.out.kept hgr6 (own_ne_own HT5.out HI5.out (by decide))); have HI6 := Aside0.mk hown; have HM6 := Aside0.mk (map_grown HM5.out hgr6 HI5.out); have HB6 := Aside0.mk hb6; clear hown hb6 hgr6 hat6)))
        go_roundw
        case rel => exact ⟨j + 1, _, _, _, _, _, by omega, by go_num, HS, HD2, HM6, K6, HT6, HI6, HB6⟩
        case measure => simp [intOf]; omega
    · have c1 : decide ((j : Int) < (l0.length : Int)) = false := decide_eq_false (by omega)
      obtain rfl : j = l0.length := by omega
      have hq := HA.out.symm.trans H.out
      simp only [Option.some.injEq, Prod.mk.injEq] at hq
      obtain ⟨e1, e2, e3⟩ := hq
      subst e1 e2 e3
      go_wp2
      go_ret
      exact ⟨_, _, rfl, K.out, HT.out, HI.out, HB.out⟩
def desigs_Build.f (l0 : List ByteArray) : Option (List Int × List Int) := (bfirst l0 l0.length).bind fun s => some (if s.1.length = 0 then [0] else s.1, s.2.2)
theorem lit_own {w : World} {B g : Nat} (hB : B ≤ g) (h : w.heap[g]? = some (.cells (encs (Value.int .u8) [0]).toArray 5 (0, 0))) : w.ownsRow B 5 1 (.slice (some ⟨g, 0, none⟩) 1 1) ([0] : List Int).length (nums .u8 [0]) :=
  ⟨rfl, .inr ⟨g, 1, _, rfl, hB, h, Nat.le_refl 1, by decide, rfl, rfl⟩⟩
set_option maxHeartbeats 8000000 in
set_option maxRecDepth 100000 in
theorem desigs_Build.calls (A0 : Option Addr) (c0 : Nat) (l0 : List ByteArray) (r1 : List Int) (r2 : List Int) (w : World) (hr0 : Kd.C Kd.string w A0 l0.length l0) (hc0 : l0.length ≤ c0) (h : desigs_Build.f l0 = some (r1, r2)) :
    Calls Try.prog 16 #[.slice A0 l0.length c0] w fun e w' => ∃ v0_ v1_ : Value, e = .returned (.tuple #[v0_, v1_]) ∧ Kd.R (Kd.int .u8) 5 w' w.heap.size (fun _ => True) v0_ r1 ∧ Kd.R (Kd.int .i64) 3 w' w.heap.size (fun _ => True) v1_ r2 ∧ Below w.heap.size w w' := by
  have HR := Aside0.mk hr0
  have HB := Aside0.mk (Below.refl w.heap.size w)
  obtain ⟨⟨T, M, I⟩, h1, h2⟩ := Option.bind_eq_some_iff.mp h
  have H1 := Aside0.mk h1
  dsimp only at h2
  clear h h1 hr0
  go_enter Try.func16, Try.ntmps16
  by_cases hT : T.length = 0
  · rw [if_pos hT] at h2
    obtain ⟨e1, e2⟩ := Prod.mk.inj (Option.some.inj h2)
    subst e1 e2
    have cT : decide ((T.length : Int) = 0) = true := decide_eq_true (by omega)
    go_wp2_with (first
      | ((with_reducible refine gate_dst (N := 4) rfl ?_); (refine box_event ?hg (N := 4) ?hd (cs := #[.slice none 0 0]) (t := 22) ?hr ?_; (case hd => rfl); (case hg => rfl); (case hr => first | (go_simp; done) | (go_simp; rfl)); intro g hg w1 hk hb1; have K1 := Aside0.mk hk; have G1 : Aside0 (w.heap.size ≤ g) := ⟨by rw [hg]; exact HB.out.size⟩; have HB1 := Aside0.mk (below_then HB.out HB.out.size hb1); clear hk hb1 hg))
      | (go_at_call 24; (refine (first.calls w g A0 c0 l0 T M I w1 G1.out HR.out K1.out HB1.out H1.out).mono ?_); rintro e w2 ⟨vi, v', rfl, hk2, ht2, hi2, hb2⟩; have K2 := Aside0.mk hk2; have HT2 := Aside0.mk ht2; have HI2 := Aside0.mk hi2; have HB2 := Aside0.mk hb2; obtain ⟨AT, cT', eT⟩ := own_form ht2; subst eT; have hc2 : w2.cell? ⟨g, 0, none⟩ = some (.slice AT T.length cT') := (blk_cell hk2 0).trans rfl; clear hk2 ht2 hi2 hb2)
      | ((with_reducible refine gate_dst (N := 12) rfl ?_); (refine lit_event ?hg (N := 12) ?hd (cs := (encs (Value.int .u8) [0]).toArray) (e := 5) (n := 1) ?hr ?_; (case hd => rfl); (case hg => rfl); (case hr => first | (go_simp; done) | (go_simp; rfl)); intro g12 hg12 w3 hk12 hb; have K3 := Aside0.mk (blk_below K2.out hb); have HI3 := Aside0.mk (own_below HI2.out hb); have G12 : Aside0 (w.heap.size ≤ g12) := ⟨by rw [hg12]; exact HB2.out.size⟩; have HB3 := Aside0.mk (below_then HB2.out HB2.out.size hb); have L3 := Aside0.mk (lit_own G12.out hk12); have hc3 : w3.cell? ⟨g, 0, none⟩ = some (.slice AT T.length cT') := (blk_cell K3.out 0).trans rfl; have hf3 := blk_frozen K3.out 0; clear hk12 hb hg12 hc2))
      | ((with_reducible refine gate_store (t := 22) (p := 4) rfl ?_); (refine cell_store rfl g 0 (.slice (some ⟨g12, 0, none⟩) 1 1) rfl ?hr K3.out ?_; (case hr => first | (go_simp; done) | (go_simp; rfl)); intro w4 hk hoth hb4; have HT4 := Aside0.mk (own_far L3.out (own_ne_blk L3.out K3.out (by decide)) hoth); have HI4 := Aside0.mk (own_far HI3.out (own_ne_blk HI3.out K3.out (by decide)) hoth); have HB4 := Aside0.mk (hb4 _ _ G1.out HB3.out); have hc4 : w4.cell? ⟨g, 0, none⟩ = some (.slice (some ⟨g12, 0, none⟩) 1 1) := (blk_cell hk 0).trans rfl; clear hk hoth hb4 hc3 hf3)))
    go_ret2
    exact ⟨_, _, rfl, Kd.R_of_own HT4.out (fun _ _ => trivial), Kd.R_of_own HI4.out (fun _ _ => trivial), HB4.out⟩
  · rw [if_neg hT] at h2
    obtain ⟨e1, e2⟩ := Prod.mk.inj (Option.some.inj h2)
    subst e1 e2
    have cT : decide ((T.length : Int) = 0) = false := decide_eq_false (by omega)
    go_wp2_with (first
      | ((with_reducible refine gate_dst (N := 4) rfl ?_); (refine box_event ?hg (N := 4) ?hd (cs := #[.slice none 0 0]) (t := 22) ?hr ?_; (case hd => rfl); (case hg => rfl); (case hr => first | (go_simp; done) | (go_simp; rfl)); intro g hg w1 hk hb1; have K1 := Aside0.mk hk; have G1 : Aside0 (w.heap.size ≤ g) := ⟨by rw [hg]; exact HB.out.size⟩; have HB1 := Aside0.mk (below_then HB.out HB.out.size hb1); clear hk hb1 hg))
      | (go_at_call 24; (refine (first.calls w g A0 c0 l0 T M I w1 G1.out HR.out K1.out HB1.out H1.out).mono ?_); rintro e w2 ⟨vi, v', rfl, hk2, ht2, hi2, hb2⟩; have K2 := Aside0.mk hk2; have HT2 := Aside0.mk ht2; have HI2 := Aside0.mk hi2; have HB2 := Aside0.mk hb2; obtain ⟨AT, cT', eT⟩ := own_form ht2; subst eT; have hc2 : w2.cell? ⟨g, 0, none⟩ = some (.slice AT T.length cT') := (blk_cell hk2 0).trans rfl; clear hk2 ht2 hi2 hb2))
    go_ret2
    exact ⟨_, _, rfl, Kd.R_of_own HT2.out (fun _ _ => trivial), Kd.R_of_own HI2.out (fun _ _ => trivial), HB2.out⟩

end Go.Proofs.Ytchlggnbgabddaa.G
