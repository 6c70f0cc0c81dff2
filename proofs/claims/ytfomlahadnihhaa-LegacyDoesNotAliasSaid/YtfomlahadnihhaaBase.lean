/- Plain arithmetic of the machine's whole numbers, for the pure parts of this seat. -/
import Derived.Test.YtfomlahadnihhaaWWords
import Derived.Test.YtfomlahadnihhaaWMore
import Derived.Test.YtfomlahadnihhaaOwn
set_option linter.unusedVariables false
set_option linter.unusedSimpArgs false
namespace Go.Proofs.Ytfomlahadnihhaa.Pure
open Go.RowKit Go.Proofs.YtfomlahadnihhaaW.PrintWords Go.Proofs.YtfomlahadnihhaaW.PrintLast Go.Proofs.YtfomlahadnihhaaW.PrintMore

theorem w64 {x : Int} (h0 : -9223372036854775808 ≤ x) (h1 : x ≤ 9223372036854775807) : wrap64 x = x := by unfold wrap64; omega
theorem u64_def (n : Int) : IntKind.u64.wrap n = n % 18446744073709551616 := by simp [IntKind.wrap, IntKind.bits, IntKind.signed]
theorem i64_def (n : Int) : IntKind.i64.wrap n = wrap64 n := by rw [IntKind.wrap_i64, wrap64]
theorem u32_def (n : Int) : IntKind.u32.wrap n = n % 4294967296 := IntKind.wrap_u32 n
theorem u8_def (n : Int) : IntKind.u8.wrap n = n % 256 := IntKind.wrap_u8 n
theorem i32_def (n : Int) : IntKind.i32.wrap n = wrap32 n := by rw [IntKind.wrap_i32, wrap32]
theorem u64w {x : Int} (h0 : 0 ≤ x) (h1 : x < 18446744073709551616) : IntKind.u64.wrap x = x := by rw [u64_def]; omega
theorem wf_u8 {x : Int} (h : (Lit.int .u8 x).wf = true) : 0 ≤ x ∧ x < 256 := by simp [Lit.wf, IntKind.min, IntKind.max, IntKind.bits, IntKind.signed] at h; omega
theorem wf_u16 {x : Int} (h : (Lit.int .u16 x).wf = true) : 0 ≤ x ∧ x < 65536 := by simp [Lit.wf, IntKind.min, IntKind.max, IntKind.bits, IntKind.signed] at h; omega
theorem wf_u32 {x : Int} (h : (Lit.int .u32 x).wf = true) : 0 ≤ x ∧ x < 4294967296 := by simp [Lit.wf, IntKind.min, IntKind.max, IntKind.bits, IntKind.signed] at h; omega
theorem wf_u64 {x : Int} (h : (Lit.int .u64 x).wf = true) : 0 ≤ x ∧ x < 18446744073709551616 := by simp [Lit.wf, IntKind.min, IntKind.max, IntKind.bits, IntKind.signed] at h; omega
theorem wf_i64 {x : Int} (h : (Lit.int .i64 x).wf = true) : -9223372036854775808 ≤ x ∧ x ≤ 9223372036854775807 := by simp [Lit.wf, IntKind.min, IntKind.max, IntKind.bits, IntKind.signed] at h; omega
theorem wf_i32 {x : Int} (h : (Lit.int .i32 x).wf = true) : -2147483648 ≤ x ∧ x ≤ 2147483647 := by simp [Lit.wf, IntKind.min, IntKind.max, IntKind.bits, IntKind.signed] at h; omega

/-- One step of a chain of calls. -/
theorem bnd {α β : Type} {a : Option α} {x : α} {f : α → Option β} {r : Option β} (h : a = some x) (h2 : f x = r) : a.bind f = r := by subst h; exact h2

/-- A list of bytes. -/
def Byt (l : List Int) : Prop := ∀ x ∈ l, 0 ≤ x ∧ x < 256
theorem Byt.of {l : List Int} (h : ∀ x ∈ l, (Lit.int .u8 x).wf = true) : Byt l := fun x hx => wf_u8 (h x hx)
theorem Byt.drop {l : List Int} (h : Byt l) (n : Nat) : Byt (l.drop n) := fun x hx => h x (List.mem_of_mem_drop hx)
theorem Byt.take {l : List Int} (h : Byt l) (n : Nat) : Byt (l.take n) := fun x hx => h x (List.mem_of_mem_take hx)
theorem Byt.append {l m : List Int} (h : Byt l) (k : Byt m) : Byt (l ++ m) := fun x hx => (List.mem_append.1 hx).elim (h x) (k x)
theorem Byt.nil : Byt [] := fun x hx => by cases hx
theorem Byt.rd {l : List Int} (h : Byt l) (i : Int) : 0 ≤ rd l i ∧ rd l i < 256 := by
  unfold Go.Proofs.YtfomlahadnihhaaW.PrintWords.rd
  by_cases hi : i.toNat < l.length
  · rw [List.getD_eq_getElem?_getD, List.getElem?_eq_getElem hi]; exact h _ (List.getElem_mem hi)
  · rw [List.getD_eq_getElem?_getD, List.getElem?_eq_none (by omega)]; simp

theorem rd_nat (l : List Int) (i : Nat) (h : i < l.length) : rd l (i : Int) = l[i] := by
  unfold rd; simp [List.getD_eq_getElem?_getD, List.getElem?_eq_getElem h]
theorem rd_int (l : List Int) (i : Int) (h0 : 0 ≤ i) (h : i < l.length) : rd l i = l[i.toNat]'(by omega) := by
  unfold rd; rw [List.getD_eq_getElem?_getD, List.getElem?_eq_getElem (by omega)]; rfl
theorem drop_rd (l : List Int) (i : Nat) (h : i < l.length) : l.drop i = rd l (i : Int) :: l.drop (i + 1) := by
  rw [rd_nat l i h]; exact List.drop_eq_getElem_cons h
theorem rd_drop (l : List Int) (n : Nat) (i : Int) (h0 : 0 ≤ i) : rd (l.drop n) i = rd l (n + i) := by
  unfold rd; rw [List.getD_eq_getElem?_getD, List.getD_eq_getElem?_getD, List.getElem?_drop]
  congr 2; omega
theorem rd_append_left (l m : List Int) (i : Int) (h0 : 0 ≤ i) (h : i < l.length) : rd (l ++ m) i = rd l i := by
  unfold rd; rw [List.getD_eq_getElem?_getD, List.getD_eq_getElem?_getD, List.getElem?_append_left (by omega)]
theorem rd_append_right (l m : List Int) (i : Int) (h0 : (l.length : Int) ≤ i) : rd (l ++ m) i = rd m (i - l.length) := by
  unfold rd; rw [List.getD_eq_getElem?_getD, List.getD_eq_getElem?_getD, List.getElem?_append_right (by omega)]
  congr 2; omega

end Go.Proofs.Ytfomlahadnihhaa.Pure
