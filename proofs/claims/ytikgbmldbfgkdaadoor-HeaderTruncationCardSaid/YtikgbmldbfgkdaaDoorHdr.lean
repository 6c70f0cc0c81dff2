/- Headers: what Encode and Decode answer, in plain lists. -/
import Derived.Test.YtikgbmldbfgkdaaDoorWWords
import Derived.Test.YtikgbmldbfgkdaaDoorWMore
import Derived.Test.YtikgbmldbfgkdaaDoorOwn
import Derived.Test.YtikgbmldbfgkdaaDoorGx10
import Derived.Test.YtikgbmldbfgkdaaDoorGx14
import Derived.Test.YtikgbmldbfgkdaaDoorGx15
import Derived.Test.YtikgbmldbfgkdaaDoorGx16
import Derived.Test.YtikgbmldbfgkdaaDoorGx4
import Derived.Test.YtikgbmldbfgkdaaDoorGx6
import Derived.Test.YtikgbmldbfgkdaaDoorBase
import Derived.Test.YtikgbmldbfgkdaaDoorBig
import Derived.Test.YtikgbmldbfgkdaaDoorCur
set_option linter.unusedVariables false
set_option linter.unusedSimpArgs false
namespace Go.Proofs.YtikgbmldbfgkdaaDoor.Pure
open Go.RowKit Go.Proofs.YtikgbmldbfgkdaaDoor.G Go.Proofs.YtikgbmldbfgkdaaDoorW.PrintWords Go.Proofs.YtikgbmldbfgkdaaDoorW.PrintLast Go.Proofs.YtikgbmldbfgkdaaDoorW.PrintMore

/-- The fields, one behind the other. -/
def encs6 (f : Nat → Int) : Nat → List Int
  | 0 => []
  | n + 1 => encs6 f n ++ enc 4 (f n)
theorem encs6_length (f : Nat → Int) (n : Nat) : (encs6 f n).length = 4 * n := by
  induction n with
  | zero => rfl
  | succ n ih => rw [encs6, List.length_append, ih, enc_length]; omega
theorem encs6_byt (f : Nat → Int) (n : Nat) : Byt (encs6 f n) := by
  induction n with
  | zero => exact Byt.nil
  | succ n ih => exact ih.append (enc_byt _ _)
theorem encs6_congr (f g : Nat → Int) (n : Nat) (h : ∀ j, j < n → f j = g j) : encs6 f n = encs6 g n := by
  induction n with
  | zero => rfl
  | succ n ih => rw [encs6, encs6, ih (fun j hj => h j (by omega)), h n (by omega)]
theorem enc4_inj {x y : Int} (hx : 0 ≤ x ∧ x < 4294967296) (hy : 0 ≤ y ∧ y < 4294967296) (h : enc 4 x = enc 4 y) : x = y := by
  have := congrArg bv h
  rw [bv_enc, bv_enc] at this
  omega
theorem encs6_inj (f g : Nat → Int) (n : Nat) (hf : ∀ j, 0 ≤ f j ∧ f j < 4294967296) (hg : ∀ j, 0 ≤ g j ∧ g j < 4294967296) (h : encs6 f n = encs6 g n) : ∀ j, j < n → f j = g j := by
  induction n with
  | zero => intro j hj; omega
  | succ n ih =>
    intro j hj
    have h2 := List.append_inj (show encs6 f n ++ enc 4 (f n) = encs6 g n ++ enc 4 (g n) from h) (by rw [encs6_length, encs6_length])
    by_cases hn : j < n
    · exact ih h2.1 j hn
    · obtain rfl : j = n := by omega
      exact enc4_inj (hf j) (hg j) h2.2
theorem front20_length (v : Int) : (front20 v).length = 20 := rfl
/-- A header's bytes. -/
def encH (v : Int) (f : Nat → Int) : List Int := front20 v ++ encs6 f 6
theorem encH_length (v : Int) (f : Nat → Int) : (encH v f).length = 44 := by unfold encH; rw [List.length_append, encs6_length]; rfl
/-- What a version's letter tells. -/
theorem glens_inj {v w : Int} (hv : 1 ≤ v ∧ v ≤ 4) (hw : 1 ≤ w ∧ w ≤ 4) (h : rd glens v = rd glens w) : v = w := by
  have h1 : v = 1 ∨ v = 2 ∨ v = 3 ∨ v = 4 := by omega
  have h2 : w = 1 ∨ w = 2 ∨ w = 3 ∨ w = 4 := by omega
  rcases h1 with rfl | rfl | rfl | rfl <;> rcases h2 with rfl | rfl | rfl | rfl <;> first | rfl | exact absurd h (by decide)
theorem glens_byt {v : Int} (hv : 1 ≤ v ∧ v ≤ 4) : 0 ≤ rd glens v ∧ rd glens v < 256 := by
  have h1 : v = 1 ∨ v = 2 ∨ v = 3 ∨ v = 4 := by omega
  rcases h1 with rfl | rfl | rfl | rfl <;> decide
theorem encH_byt {v : Int} (hv : 1 ≤ v ∧ v ≤ 4) (f : Nat → Int) : Byt (encH v f) := by
  refine Byt.append (fun x hx => ?_) (encs6_byt _ _)
  have hg := glens_byt hv
  rcases List.mem_append.1 hx with h | h
  · simp only [List.mem_cons, List.not_mem_nil, or_false] at h
    rcases h with rfl | rfl | rfl | rfl | rfl <;> first | exact hg | decide
  · rw [List.eq_of_mem_replicate h]; decide
theorem encH_inj {v w : Int} {f g : Nat → Int} (hv : 1 ≤ v ∧ v ≤ 4) (hw : 1 ≤ w ∧ w ≤ 4) (hf : ∀ j, 0 ≤ f j ∧ f j < 4294967296) (hg : ∀ j, 0 ≤ g j ∧ g j < 4294967296) (h : encH v f = encH w g) : v = w ∧ ∀ j, j < 6 → f j = g j := by
  have h2 := List.append_inj (show front20 v ++ encs6 f 6 = front20 w ++ encs6 g 6 from h) rfl
  refine ⟨glens_inj hv hw ?_, encs6_inj f g 6 hf hg h2.2⟩
  have h3 := (List.append_inj (show [84, 90, 105, 102, rd glens v] ++ List.replicate 15 (0 : Int) = [84, 90, 105, 102, rd glens w] ++ List.replicate 15 0 from h2.1) rfl).1
  simp only [List.cons.injEq, and_true, true_and] at h3
  exact h3
theorem app6_f (k : Nat) (hk : 10 < k) (f : Nat → Int) (hf : ∀ j, 0 ≤ f j ∧ f j < 4294967296) (base : List Int) (hb : base.length ≤ 1000) : ∀ n, n ≤ 6 → app6 k f base n = some (base ++ encs6 f n) := by
  intro n
  induction n with
  | zero => intro _; rw [app6, encs6, List.append_nil]
  | succ n ih =>
    intro hn
    have := hf n
    rw [app6, ih (by omega), Option.bind_some, show (4 : Int) = ((4 : Nat) : Int) from rfl, u64w (by omega) (by omega), append_f _ 4 (by omega) _ (by omega) (by rw [List.length_append, encs6_length]; omega) k hk, encs6, List.append_assoc]
/-- Six numbers as counts. -/
def six (a b c d e f : Int) : Nat → Int := pick6 a b c d e f
theorem six_bound {a b c d e f : Int} (ha : 0 ≤ a ∧ a < 4294967296) (hb : 0 ≤ b ∧ b < 4294967296) (hc : 0 ≤ c ∧ c < 4294967296) (hd : 0 ≤ d ∧ d < 4294967296) (he : 0 ≤ e ∧ e < 4294967296) (hf : 0 ≤ f ∧ f < 4294967296) (j : Nat) : 0 ≤ pick6 a b c d e f j ∧ pick6 a b c d e f j < 4294967296 := by
  by_cases h : j < 6
  · have h6 : j = 0 ∨ j = 1 ∨ j = 2 ∨ j = 3 ∨ j = 4 ∨ j = 5 := by omega
    rcases h6 with rfl | rfl | rfl | rfl | rfl | rfl <;> assumption
  · have e : pick6 a b c d e f j = 0 := by
      obtain ⟨m, rfl⟩ : ∃ m, j = m + 6 := ⟨j - 6, by omega⟩
      rfl
    rw [e]; omega
theorem encode_f {v a b c d e f : Int} (hv : 1 ≤ v ∧ v ≤ 4) (hf : ∀ j, 0 ≤ pick6 a b c d e f j ∧ pick6 a b c d e f j < 4294967296) : header_Encode.f v a b c d e f = some (encH v (pick6 a b c d e f)) := by
  unfold header_Encode.f
  rw [if_pos (by omega), app6_f 20 (by decide) _ hf _ (by rw [front20_length]; omega) 6 (Nat.le_refl 6), encH]

/-! Reading -/
theorem version_err (l : List Int) (p e a : Int) (he : e ≠ 0) (k : Nat) : header_version.f k l p e a = some (0, l, p, e, a) := by
  unfold header_version.f
  refine bnd (cuint_err he k) ?_
  dsimp only
  rw [if_neg he]
theorem version_short (l : List Int) (hl : l.length ≤ 4611686018427387904) (p : Nat) (hp : p = l.length) (a : Int) (k : Nat) : header_version.f k l (p : Int) 0 a = some (0, l, (p : Int), 1, (l.length : Int)) := by
  unfold header_version.f
  refine bnd (cuint_short ⟨by omega, by omega⟩ hl rfl (.inr (by omega)) k) ?_
  dsimp only
  rw [if_neg (by decide)]
theorem field_one (l : List Int) (p : Nat) (hp : p < l.length) : fieldV l p 1 = rd l p := by
  unfold fieldV fieldOk
  rw [if_pos (by simp; omega), Int.toNat_natCast, drop_rd l p hp]
  simp [bv, bvf]
def verOf (b : Int) : Int := if b = 0 then 1 else if b = 50 then 2 else if b = 51 then 3 else if b = 52 then 4 else 0
theorem version_f (l : List Int) (hB : Byt l) (hl : l.length ≤ 4611686018427387904) (p : Nat) (hp : p < l.length) (a : Int) (k : Nat) (hk : 10 < k) : header_version.f k l p 0 a = some (if verOf (rd l p) = 0 then (0, l, (p : Int), 4, (p : Int)) else (verOf (rd l p), l, (p : Int) + 1, 0, a)) := by
  unfold header_version.f
  refine bnd (cuint_ok hB ⟨by omega, by omega⟩ hl rfl 1 (by decide) (by omega) k hk) ?_
  dsimp only
  rw [if_pos rfl, field_one l p hp]
  obtain ⟨k, rfl⟩ : ∃ m, k = m + 11 := ⟨k - 11, by omega⟩
  simp only [header_version.l0]
  have e1 : wrap64 (1 + 1) = 2 := by unfold wrap64; omega
  have e2 : wrap64 (2 + 1) = 3 := by unfold wrap64; omega
  have e3 : wrap64 (3 + 1) = 4 := by unfold wrap64; omega
  have e4 : wrap64 (4 + 1) = 5 := by unfold wrap64; omega
  have g1 : IntKind.u64.wrap (rd glens 1) = 0 := by decide
  have g2 : IntKind.u64.wrap (rd glens 2) = 50 := by decide
  have g3 : IntKind.u64.wrap (rd glens 3) = 51 := by decide
  have g4 : IntKind.u64.wrap (rd glens 4) = 52 := by decide
  simp only [e1, e2, e3, e4, g1, g2, g3, g4]
  generalize rd l (p : Int) = b
  unfold verOf
  rw [if_pos (by decide), if_pos (by decide), if_pos (by decide)]
  by_cases h0 : b = 0
  · subst h0; rfl
  rw [if_neg (fun e => h0 e.symm), if_pos (by decide), if_pos (by decide), if_pos (by decide)]
  by_cases h1 : b = 50
  · subst h1; rfl
  rw [if_neg (fun e => h1 e.symm), if_pos (by decide), if_pos (by decide), if_pos (by decide)]
  by_cases h2 : b = 51
  · subst h2; rfl
  rw [if_neg (fun e => h2 e.symm), if_pos (by decide), if_pos (by decide), if_pos (by decide)]
  by_cases h3 : b = 52
  · subst h3; rfl
  rw [if_neg (fun e => h3 e.symm), if_neg (by decide)]
  refine bnd (fail_ok _ _ rfl (by decide)) ?_
  rw [if_neg h0, if_neg h1, if_neg h2, if_neg h3, if_pos rfl]
theorem upd_zero (n : Nat) : upd (fun _ => 0) n ((0 : Int) % 4294967296) = fun _ => 0 := by
  funext j
  unfold upd
  split <;> rfl
theorem rd6_err (l : List Int) (p e a : Int) (he : e ≠ 0) (k : Nat) (n : Nat) : rd6 k (l, p, e, a) n = some (fun _ => 0, l, p, e, a) := by
  induction n with
  | zero => rfl
  | succ n ih =>
    rw [rd6, ih, Option.bind_some]
    refine bnd (cuint_err he k) ?_
    dsimp only
    rw [upd_zero]
/-- The n-th of the fields from q on. -/
def fld (l : List Int) (q n : Nat) : Nat → Int := fun j => if j < n then fieldV l ((q + 4 * j : Nat) : Int) 4 else 0
theorem fld_bound (l : List Int) (hB : Byt l) (q n j : Nat) : 0 ≤ fld l q n j ∧ fld l q n j < 4294967296 := by
  unfold fld
  split
  · have := fieldV_bound l hB ((q + 4 * j : Nat) : Int) 4 (by decide)
    exact ⟨this.1, by have := this.2; simpa using this⟩
  · omega
theorem rd6_ok (l : List Int) (hB : Byt l) (hl : l.length ≤ 4611686018427387904) (q : Nat) (a : Int) (k : Nat) (hk : 10 < k) : ∀ n, q + 4 * n ≤ l.length → rd6 k (l, (q : Int), 0, a) n = some (fld l q n, l, ((q + 4 * n : Nat) : Int), 0, a) := by
  intro n
  induction n with
  | zero => intro _; rw [rd6]; congr 1
  | succ n ih =>
    intro hn
    rw [rd6, ih (by omega), Option.bind_some]
    refine bnd (cuint_ok (p := ((q + 4 * n : Nat) : Int)) hB ⟨by omega, by omega⟩ hl rfl 4 (by decide) (by omega) k hk) ?_
    dsimp only
    have hb := fieldV_bound l hB ((q + 4 * n : Nat) : Int) 4 (by decide)
    have hb2 : fieldV l ((q + 4 * n : Nat) : Int) 4 < 4294967296 := by have := hb.2; simpa using this
    have e : upd (fld l q n) n (fieldV l ((q + 4 * n : Nat) : Int) 4 % 4294967296) = fld l q (n + 1) := by
      rw [Int.emod_eq_of_lt hb.1 hb2]
      funext j
      unfold upd fld
      by_cases h : j = n
      · subst h; rw [if_pos rfl, if_pos (by omega)]
      · rw [if_neg h]
        by_cases h2 : j < n
        · rw [if_pos h2, if_pos (by omega)]
        · rw [if_neg h2, if_neg (by omega)]
    rw [e, show ((q + 4 * n : Nat) : Int) + ((4 : Nat) : Int) = ((q + 4 * (n + 1) : Nat) : Int) by omega]
theorem rd6_short (l : List Int) (hB : Byt l) (hl : l.length ≤ 4611686018427387904) (q : Nat) (hq : q ≤ l.length) (a : Int) (k : Nat) (hk : 10 < k) : ∀ n, l.length < q + 4 * n → ∃ f p', rd6 k (l, (q : Int), 0, a) n = some (f, l, p', 1, (l.length : Int)) := by
  intro n
  induction n with
  | zero => intro h; omega
  | succ n ih =>
    intro hn
    by_cases h : q + 4 * n ≤ l.length
    · refine ⟨upd (fld l q n) n (0 % 4294967296), ((q + 4 * n : Nat) : Int), ?_⟩
      rw [rd6, rd6_ok l hB hl q a k hk n h, Option.bind_some]
      exact bnd (cuint_short (p := ((q + 4 * n : Nat) : Int)) ⟨by omega, by omega⟩ hl rfl (.inr (by omega)) k) rfl
    · obtain ⟨f, p', e⟩ := ih (by omega)
      refine ⟨upd f n (0 % 4294967296), p', ?_⟩
      rw [rd6, e, Option.bind_some]
      exact bnd (cuint_err (show (1 : Int) ≠ 0 by decide) k) rfl
theorem decEnd_err (v : Int) (f : Nat → Int) (l : List Int) (p e a q : Int) (he : e ≠ 0) : decEnd v f (l, p, e, a) q = some (0, 0, 0, 0, 0, 0, 0, l, p, e, a) := by
  unfold decEnd
  dsimp only
  rw [if_neg he, Option.bind_some, if_neg he]
theorem decEnd_ok (v : Int) (f : Nat → Int) (l : List Int) (p a q : Int) (b : Bool) (hc : header_Consistent.f v (f 0) (f 1) (f 2) (f 3) (f 4) (f 5) = some b) : decEnd v f (l, p, 0, a) q = some (if b = true then (v, f 0, f 1, f 2, f 3, f 4, f 5, l, p, 0, a) else (0, 0, 0, 0, 0, 0, 0, l, p, 6, q)) := by
  unfold decEnd
  dsimp only
  rw [if_pos rfl, hc, Option.bind_some]
  cases b with
  | false =>
    rw [if_neg (by decide)]
    refine bnd (fail_ok _ _ rfl (by decide)) ?_
    rfl
  | true =>
    rw [if_pos rfl, Option.bind_some]
    rfl
/-- The first place where two lists part. -/
theorem first_off (P : Nat → Prop) [DecidablePred P] : ∀ n, (∀ j, j < n → P j) ∨ ∃ i, i < n ∧ (∀ j, j < i → P j) ∧ ¬ P i := by
  intro n
  induction n with
  | zero => exact .inl (fun j hj => by omega)
  | succ n ih =>
    rcases ih with h | ⟨i, hi, h1, h2⟩
    · by_cases hp : P n
      · refine .inl (fun j hj => ?_)
        by_cases e : j = n
        · subst e; exact hp
        · exact h j (by omega)
      · exact .inr ⟨n, by omega, h, hp⟩
    · exact .inr ⟨i, by omega, h1, h2⟩
theorem take_of_rd (l w : List Int) (p : Nat) (hp : p + w.length ≤ l.length) (h : ∀ j : Nat, j < w.length → rd l ((p + j : Nat) : Int) = rd w (j : Int)) : (l.drop p).take w.length = w := by
  apply List.ext_getElem
  · rw [List.length_take, List.length_drop]; omega
  · intro j h1 h2
    have := h j h2
    rw [rd_nat l (p + j) (by omega), rd_nat w j h2] at this
    simpa using this
theorem take_add' (l : List Int) (p m n : Nat) : (l.drop p).take (m + n) = (l.drop p).take m ++ (l.drop (p + m)).take n := by
  rw [List.take_add, List.drop_drop]
theorem enc_field (l : List Int) (hB : Byt l) (q : Nat) (hq : q + 4 ≤ l.length) : (l.drop q).take 4 = enc 4 (fieldV l (q : Int) 4) := by
  unfold fieldV fieldOk
  rw [if_pos (by simp; omega), Int.toNat_natCast]
  have e : ((l.drop q).take 4).length = 4 := by rw [List.length_take, List.length_drop]; omega
  have := enc_bv ((l.drop q).take 4) ((hB.drop q).take 4)
  rw [e] at this
  exact this.symm
theorem encs_fields (l : List Int) (hB : Byt l) (q : Nat) : ∀ n, q + 4 * n ≤ l.length → (l.drop q).take (4 * n) = encs6 (fld l q n) n := by
  intro n
  induction n with
  | zero => intro _; simp [encs6]
  | succ n ih =>
    intro hn
    rw [show 4 * (n + 1) = 4 * n + 4 by omega, take_add', ih (by omega), enc_field l hB (q + 4 * n) (by omega), encs6]
    rw [encs6_congr (fld l q n) (fld l q (n + 1)) n (fun j hj => by unfold fld; rw [if_pos hj, if_pos (by omega)])]
    congr 2
    unfold fld
    rw [if_pos (by omega)]
/-- Do the bytes that are there agree with a valid header's? -/
def Pref (l : List Int) (p : Nat) : Prop := ∃ v f, (1 ≤ v ∧ v ≤ 4) ∧ (∀ j : Nat, j < 44 → p + j < l.length → rd l ((p + j : Nat) : Int) = rd (encH v f) (j : Int))
theorem rd_rep (n : Nat) (i : Int) : rd (List.replicate n (0 : Int)) i = 0 := by
  unfold rd
  rw [List.getD_eq_getElem?_getD, List.getElem?_replicate]
  split <;> rfl
theorem encH_mid (v : Int) (f : Nat → Int) (j : Nat) (hj : j < 15) : rd (encH v f) ((5 + j : Nat) : Int) = 0 := by
  unfold encH
  rw [rd_append_left _ _ _ (by omega) (by rw [front20_length]; omega)]
  unfold front20
  rw [rd_append_right _ _ _ (by simp; omega), rd_rep]
theorem encH_head (v : Int) (f : Nat → Int) (j : Nat) (hj : j < 4) : rd (encH v f) (j : Int) = rd [84, 90, 105, 102] (j : Int) := by
  have h4 : j = 0 ∨ j = 1 ∨ j = 2 ∨ j = 3 := by omega
  rcases h4 with rfl | rfl | rfl | rfl <;> rfl
theorem encH_ver (v : Int) (f : Nat → Int) : rd (encH v f) ((4 : Nat) : Int) = rd glens v := rfl
theorem verOf_glens {v : Int} (hv : 1 ≤ v ∧ v ≤ 4) : verOf (rd glens v) = v := by
  have h1 : v = 1 ∨ v = 2 ∨ v = 3 ∨ v = 4 := by omega
  rcases h1 with rfl | rfl | rfl | rfl <;> decide
theorem glens_verOf {b : Int} (h : verOf b ≠ 0) : (1 ≤ verOf b ∧ verOf b ≤ 4) ∧ rd glens (verOf b) = b := by
  unfold verOf at h ⊢
  by_cases h0 : b = 0
  · subst h0; decide
  rw [if_neg h0] at h ⊢
  by_cases h1 : b = 50
  · subst h1; decide
  rw [if_neg h1] at h ⊢
  by_cases h2 : b = 51
  · subst h2; decide
  rw [if_neg h2] at h ⊢
  by_cases h3 : b = 52
  · subst h3; decide
  rw [if_neg h3] at h
  exact absurd rfl h
/-- What a reading that fails leaves. -/
def Bad (l : List Int) (p : Nat) (r : Option (Int × Int × Int × Int × Int × Int × Int × List Int × Int × Int × Int)) : Prop :=
  ∃ p' e' : Int, ∃ a' : Nat, r = some (0, 0, 0, 0, 0, 0, 0, l, p', e', (a' : Int)) ∧ e' ≠ 0 ∧ a' ≤ l.length ∧ ((e' = 1 ∧ a' = l.length ∧ l.length < p + 44) ∨ ¬ Pref l p)
def Good (l : List Int) (p : Nat) (a : Int) (r : Option (Int × Int × Int × Int × Int × Int × Int × List Int × Int × Int × Int)) : Prop :=
  p + 44 ≤ l.length ∧ ∃ v f, (1 ≤ v ∧ v ≤ 4) ∧ (∀ j, 0 ≤ f j ∧ f j < 4294967296) ∧ (l.drop p).take 44 = encH v f ∧ ∀ b, header_Consistent.f v (f 0) (f 1) (f 2) (f 3) (f 4) (f 5) = some b → r = some (if b = true then (v, f 0, f 1, f 2, f 3, f 4, f 5, l, ((p + 44 : Nat) : Int), 0, a) else (0, 0, 0, 0, 0, 0, 0, l, ((p + 44 : Nat) : Int), 6, (p : Int)))
theorem dec_err1 {l l' : List Int} {p e a q e' a' : Int} (h : cursor_Expect.f 40 l p e a [84, 90, 105, 102] 3 = some (l', q, e', a')) (he : e' ≠ 0) : header_Decode.f l p e a = some (0, 0, 0, 0, 0, 0, 0, l', q, e', a') := by
  unfold header_Decode.f
  refine bnd h ?_
  refine bnd (version_err l' q e' a' he 40) ?_
  refine bnd (expect_err l' _ q e' a' 5 he 40) ?_
  refine bnd (rd6_err l' q e' a' he 40 6) ?_
  exact decEnd_err _ _ l' q e' a' p he
theorem dec_err2 {l l1 l' : List Int} {p e a p1 e1 a1 v q e' a' : Int} (h : cursor_Expect.f 40 l p e a [84, 90, 105, 102] 3 = some (l1, p1, e1, a1)) (h2 : header_version.f 40 l1 p1 e1 a1 = some (v, l', q, e', a')) (he : e' ≠ 0) : header_Decode.f l p e a = some (0, 0, 0, 0, 0, 0, 0, l', q, e', a') := by
  unfold header_Decode.f
  refine bnd h ?_
  refine bnd h2 ?_
  refine bnd (expect_err l' _ q e' a' 5 he 40) ?_
  refine bnd (rd6_err l' q e' a' he 40 6) ?_
  exact decEnd_err _ _ l' q e' a' p he
theorem dec_err3 {l l1 l2 l' : List Int} {p e a p1 e1 a1 v p2 e2 a2 q e' a' : Int} (h : cursor_Expect.f 40 l p e a [84, 90, 105, 102] 3 = some (l1, p1, e1, a1)) (h2 : header_version.f 40 l1 p1 e1 a1 = some (v, l2, p2, e2, a2)) (h3 : cursor_Expect.f 40 l2 p2 e2 a2 (List.replicate 15 0) 5 = some (l', q, e', a')) (he : e' ≠ 0) : header_Decode.f l p e a = some (0, 0, 0, 0, 0, 0, 0, l', q, e', a') := by
  unfold header_Decode.f
  refine bnd h ?_
  refine bnd h2 ?_
  refine bnd h3 ?_
  refine bnd (rd6_err l' q e' a' he 40 6) ?_
  exact decEnd_err _ _ l' q e' a' p he
theorem expect_short (l w : List Int) (hl : l.length ≤ 4611686018427387904) (p : Nat) (hp : p ≤ l.length) (hs : l.length < p + w.length) (a why : Int) (k : Nat) : cursor_Expect.f k l p 0 a w why = some (l, (p : Int), 1, (l.length : Int)) := by
  unfold cursor_Expect.f
  refine bnd (adv_short ⟨by omega, by omega⟩ hl rfl (.inr (by omega))) ?_
  dsimp only
  rw [if_neg (by decide)]
theorem dec_total (l : List Int) (hB : Byt l) (hl : l.length ≤ 140737488351232) (p : Nat) (hp : p ≤ l.length) (a : Int) : Good l p a (header_Decode.f l p 0 a) ∨ Bad l p (header_Decode.f l p 0 a) := by
  have hl2 : l.length ≤ 4611686018427387904 := by omega
  by_cases n4 : p + 4 ≤ l.length
  case neg => exact .inr ⟨_, _, l.length, dec_err1 (expect_short l [84, 90, 105, 102] hl2 p hp (by simp; omega) a 3 40) (by decide), by decide, Nat.le_refl _, .inl ⟨rfl, rfl, by omega⟩⟩
  rcases first_off (fun j => rd l ((p + j : Nat) : Int) = rd [84, 90, 105, 102] (j : Int)) 4 with h | ⟨i, hi, h1, h2⟩
  case inr =>
    refine .inr ⟨_, _, p + i, dec_err1 (expect_no l [84, 90, 105, 102] hl2 p n4 0 a 3 rfl (by decide) i hi h1 h2 40 (by decide)) (by decide), by decide, by omega, .inr ?_⟩
    rintro ⟨v, f, hv, hr⟩
    exact h2 ((hr i (by omega) (by omega)).trans (encH_head v f i hi))
  have E1 := expect_yes l [84, 90, 105, 102] hl2 p n4 0 a 3 rfl h 40 (by decide)
  rw [show (p : Int) + (([84, 90, 105, 102] : List Int).length : Int) = ((p + 4 : Nat) : Int) by simp] at E1
  by_cases n5 : p + 5 ≤ l.length
  case neg => exact .inr ⟨_, _, l.length, dec_err2 E1 (version_short l hl2 (p + 4) (by omega) a 40) (by decide), by decide, Nat.le_refl _, .inl ⟨rfl, rfl, by omega⟩⟩
  have E2 := version_f l hB hl2 (p + 4) (by omega) a 40 (by decide)
  by_cases hv : verOf (rd l ((p + 4 : Nat) : Int)) = 0
  · rw [if_pos hv] at E2
    refine .inr ⟨_, _, p + 4, dec_err2 E1 E2 (by decide), by decide, by omega, .inr ?_⟩
    rintro ⟨v, f, hv', hr⟩
    have e := hr 4 (by omega) (by omega)
    rw [encH_ver] at e
    rw [e, verOf_glens hv'] at hv
    omega
  rw [if_neg hv, show ((p + 4 : Nat) : Int) + 1 = ((p + 5 : Nat) : Int) by omega] at E2
  obtain ⟨hV, hG⟩ := glens_verOf hv
  by_cases n20 : p + 20 ≤ l.length
  case neg => exact .inr ⟨_, _, l.length, dec_err3 E1 E2 (expect_short l (List.replicate 15 0) hl2 (p + 5) n5 (by simp; omega) a 5 40) (by decide), by decide, Nat.le_refl _, .inl ⟨rfl, rfl, by omega⟩⟩
  have n20' : p + 5 + (List.replicate 15 (0 : Int)).length ≤ l.length := by rw [List.length_replicate]; omega
  rcases first_off (fun j => rd l ((p + 5 + j : Nat) : Int) = rd (List.replicate 15 0) (j : Int)) 15 with h' | ⟨i, hi, h1, h2⟩
  case inr =>
    refine .inr ⟨_, _, p + 5 + i, dec_err3 E1 E2 (expect_no l (List.replicate 15 0) hl2 (p + 5) n20' 0 a 5 rfl (by decide) i (by rw [List.length_replicate]; exact hi) h1 h2 40 (by decide)) (by decide), by decide, by omega, .inr ?_⟩
    rintro ⟨v, f, hv', hr⟩
    refine h2 ?_
    have e := hr (5 + i) (by omega) (by omega)
    rw [encH_mid v f i hi] at e
    rw [show p + 5 + i = p + (5 + i) by omega, e, rd_rep]
  have E3 := expect_yes l (List.replicate 15 0) hl2 (p + 5) n20' 0 a 5 rfl (by rw [List.length_replicate]; exact h') 40 (by decide)
  rw [List.length_replicate, show ((p + 5 : Nat) : Int) + ((15 : Nat) : Int) = ((p + 20 : Nat) : Int) by omega] at E3
  have hU : ∀ X, (rd6 40 (l, ((p + 20 : Nat) : Int), 0, a) 6).bind (fun s => decEnd (verOf (rd l ((p + 4 : Nat) : Int))) s.1 s.2 (p : Int)) = X → header_Decode.f l p 0 a = X := by
    intro X hX
    unfold header_Decode.f
    exact bnd E1 (bnd E2 (bnd E3 hX))
  by_cases n44 : p + 44 ≤ l.length
  case neg =>
    obtain ⟨f, p', e⟩ := rd6_short l hB hl2 (p + 20) n20 a 40 (by decide) 6 (by omega)
    exact .inr ⟨_, _, l.length, hU _ (bnd e (decEnd_err _ f l p' 1 _ p (by decide))), by decide, Nat.le_refl _, .inl ⟨rfl, rfl, by omega⟩⟩
  have E4 := rd6_ok l hB hl2 (p + 20) a 40 (by decide) 6 (by omega)
  refine .inl ⟨n44, verOf (rd l ((p + 4 : Nat) : Int)), fld l (p + 20) 6, hV, fld_bound l hB (p + 20) 6, ?_, ?_⟩
  · rw [show 44 = 4 + (1 + (15 + 24)) from rfl, take_add', take_add', take_add', show p + 4 + 1 = p + 5 by omega, show p + 5 + 15 = p + 20 by omega]
    have t1 := take_of_rd l [84, 90, 105, 102] p n4 h
    have t2 : (l.drop (p + 4)).take 1 = [rd l ((p + 4 : Nat) : Int)] := by rw [drop_rd l (p + 4) (by omega)]; rfl
    have t3 := take_of_rd l (List.replicate 15 0) (p + 5) n20' (by rw [List.length_replicate]; exact h')
    have t4 := encs_fields l hB (p + 20) 6 (by omega)
    rw [List.length_replicate] at t3
    rw [show (l.drop p).take 4 = [84, 90, 105, 102] from t1, t2, t3, show (l.drop (p + 20)).take 24 = _ from t4]
    unfold encH front20
    rw [hG]
    simp only [List.append_assoc, List.cons_append, List.nil_append]
  · intro b hb
    refine hU _ (bnd E4 ?_)
    rw [show p + 20 + 4 * 6 = p + 44 by omega]
    exact decEnd_ok _ _ l _ a p b hb
theorem consistent_any (v a b c d e f : Int) : ∃ r, header_Consistent.f v a b c d e f = some r := by
  unfold header_Consistent.f
  repeat' split
  all_goals exact ⟨_, rfl⟩
/-- A header's bytes behind some others. -/
theorem dec_enc {v : Int} {f : Nat → Int} (hv : 1 ≤ v ∧ v ≤ 4) (hf : ∀ j, 0 ≤ f j ∧ f j < 4294967296) (l m n : List Int) (hl : l = m ++ (encH v f ++ n)) (hB : Byt l) (hlen : l.length ≤ 140737488351232) (a : Int) (b : Bool) (hb : header_Consistent.f v (f 0) (f 1) (f 2) (f 3) (f 4) (f 5) = some b) :
    header_Decode.f l (m.length : Int) 0 a = some (if b = true then (v, f 0, f 1, f 2, f 3, f 4, f 5, l, ((m.length + 44 : Nat) : Int), 0, a) else (0, 0, 0, 0, 0, 0, 0, l, ((m.length + 44 : Nat) : Int), 6, (m.length : Int))) := by
  have hlen2 : l.length = m.length + (44 + n.length) := by rw [hl, List.length_append, List.length_append, encH_length]
  have hd : l.drop m.length = encH v f ++ n := by rw [hl, List.drop_append_of_le_length (Nat.le_refl _), List.drop_length, List.nil_append]
  rcases dec_total l hB hlen m.length (by omega) a with h | h
  · obtain ⟨_, w, g, hw, hg, ht, hr⟩ := h
    have he : encH w g = encH v f := by
      rw [← ht, hd, List.take_append_of_le_length (by have := encH_length v f; omega), List.take_of_length_le (by have := encH_length v f; omega)]
    obtain ⟨rfl, hj⟩ := encH_inj hw hv hg hf he
    rw [← hj 0 (by decide), ← hj 1 (by decide), ← hj 2 (by decide), ← hj 3 (by decide), ← hj 4 (by decide), ← hj 5 (by decide)] at hb ⊢
    exact hr b hb
  · obtain ⟨p', e', a', _, _, _, h | h⟩ := h
    · omega
    · refine absurd ⟨v, f, hv, fun j hj hj2 => ?_⟩ h
      rw [hl, rd_append_right _ _ _ (by omega), rd_append_left _ _ _ (by omega) (by rw [encH_length]; omega)]
      congr 1
      omega
theorem awake13 : zoneinfolaw13_awake.f = some true := by decide +kernel
end Go.Proofs.YtikgbmldbfgkdaaDoor.Pure
