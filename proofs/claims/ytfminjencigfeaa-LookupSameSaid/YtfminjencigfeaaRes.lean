/- The results of a type in a valid block: lookup's and the reference's. -/
import Derived.Test.YtfminjencigfeaaWWords
import Derived.Test.YtfminjencigfeaaWMore
import Derived.Test.YtfminjencigfeaaOwn
import Derived.Test.YtfminjencigfeaaGx3
import Derived.Test.YtfminjencigfeaaGx4
import Derived.Test.YtfminjencigfeaaGx5
import Derived.Test.YtfminjencigfeaaGx6
import Derived.Test.YtfminjencigfeaaBase
import Derived.Test.YtfminjencigfeaaLook
import Derived.Test.YtfminjencigfeaaOpn
import Derived.Test.YtfminjencigfeaaBlk
set_option linter.unusedVariables false
set_option linter.unusedSimpArgs false
namespace Go.Proofs.Ytfminjencigfeaa.Pure
open Go.RowKit Go.Proofs.Ytfminjencigfeaa.G Go.Proofs.YtfminjencigfeaaW.PrintWords Go.Proofs.YtfminjencigfeaaW.PrintLast Go.Proofs.YtfminjencigfeaaW.PrintMore

def nm (l : List Int) (d : Int) : ByteArray := strOfNums (nameOf (l.drop d.toNat))
theorem name_f (l : List Int) (hl : l.length ≤ 1000) (d : Int) (h0 : 0 ≤ d) (h1 : d < l.length) : desigs_Name.f l d = some (nm l d, true) := by
  unfold desigs_Name.f
  rw [if_neg (by omega), if_neg (by omega), if_pos (by omega)]
  rfl
variable {b : Opn.S28}
def ty (b : Opn.S28) (i : Nat) : S42 := rd_T42 b.f2 (i : Int)
def nmT (b : Opn.S28) (i : Nat) : ByteArray := nm b.f3 (ty b i).f2
def res (b : Opn.S28) (i : Nat) : Bool × Int × Bool × ByteArray := (true, (ty b i).f0, (ty b i).f1, nmT b i)
def plc (b : Opn.S28) (i : Nat) : Bool := if (ty b i).f0 = 0 then (if (ty b i).f1 = true then false else ((nmT b i).toList == ([45, 48, 48] : List UInt8))) else false
def shown (b : Opn.S28) (i : Nat) : Bool × Int × Bool × ByteArray := if plc b i = true then (false, 0, false, (⟨#[]⟩ : ByteArray)) else res b i
structure Fine (b : Opn.S28) : Prop extends Good b where
  wt : WfT b.f2
  wc : Byt b.f3
  wi : Byt b.f1
theorem desig_ok (g : Fine b) {i : Nat} (hi : i < b.f2.length) : 0 ≤ (ty b i).f2 ∧ (ty b i).f2 < b.f3.length ∧ wrap64 (ty b i).f2 = (ty b i).f2 ∧ wrap64 (ty b i).f0 = (ty b i).f0 := by
  have h1 := g.wt.rd i hi
  have h2 := g.desig i hi
  exact ⟨h1.2.1, h2, w64 (by unfold ty; omega) (by unfold ty; omega), w64 (by unfold ty; omega) (by unfold ty; omega)⟩
theorem lname_f (g : Fine b) {i : Nat} (hi : i < b.f2.length) : lookup_name.f b.f0 b.f1 b.f2 b.f3 b.f4 b.f5 b.f6 (i : Int) = some (nmT b i) := by
  obtain ⟨h1, h2, h3, h4⟩ := desig_ok g hi
  unfold lookup_name.f
  rw [if_pos (by omega), if_pos (by omega), show rd_T42 b.f2 (i : Int) = ty b i from rfl, h3, name_f b.f3 (by have := g.chars; omega) _ h1 h2]
  rfl
theorem lplc_f (g : Fine b) {i : Nat} (hi : i < b.f2.length) : ttinfo_Placeholder.f (ty b i).f0 (ty b i).f1 (ty b i).f2 (nmT b i) = some (plc b i) := by
  unfold ttinfo_Placeholder.f plc
  split
  · split <;> rfl
  · rfl
theorem tr_f (g : Fine b) {i : Nat} (hi : i < b.f2.length) : lookup_TypeResult.f b.f0 b.f1 b.f2 b.f3 b.f4 b.f5 b.f6 (i : Int) = some (shown b i) := by
  obtain ⟨h1, h2, h3, h4⟩ := desig_ok g hi
  unfold lookup_TypeResult.f
  rw [if_pos (by omega), if_pos (by omega), lname_f g hi, Option.bind_some, show rd_T42 b.f2 (i : Int) = ty b i from rfl, lplc_f g hi, Option.bind_some, h4]
  unfold shown
  split <;> rfl
def sm (b : Opn.S28) (i j : Nat) : Bool := (ty b i).f0 == (ty b j).f0 && ((ty b i).f1 == (ty b j).f1 && ((nmT b i).toList == (nmT b j).toList))
theorem same_f (g : Fine b) {i j : Nat} (hi : i < b.f2.length) (hj : j < b.f2.length) : lookup_Same.f b.f0 b.f1 b.f2 b.f3 b.f4 b.f5 b.f6 (i : Int) (j : Int) = some (sm b i j) := by
  unfold lookup_Same.f sm
  rw [if_pos (by omega), if_pos (by omega), if_pos (by omega), if_pos (by omega), show rd_T42 b.f2 (i : Int) = ty b i from rfl, show rd_T42 b.f2 (j : Int) = ty b j from rfl]
  by_cases h0 : (ty b i).f0 = (ty b j).f0
  · rw [if_pos h0, show ((ty b i).f0 == (ty b j).f0) = true by simpa using h0, Bool.true_and]
    by_cases h1 : ((ty b i).f1 == (ty b j).f1) = true
    · rw [if_pos h1, lname_f g hi, Option.bind_some, lname_f g hj, Option.bind_some, h1, Bool.true_and]
    · rw [if_neg h1, show ((ty b i).f1 == (ty b j).f1) = false by simpa using h1, Bool.false_and]
  · rw [if_neg h0, show ((ty b i).f0 == (ty b j).f0) = false by simpa using h0, Bool.false_and]
def eff (b : Opn.S28) (r : Nat) : Nat := if r = 0 then 0 else (rd b.f1 ((r - 1 : Nat) : Int)).toNat
theorem eff_lt (g : Fine b) {r : Nat} (hr : r ≤ b.f0.length) : eff b r < b.f2.length ∧ (r ≠ 0 → ((eff b r : Nat) : Int) = rd b.f1 ((r - 1 : Nat) : Int) ∧ wrap64 (rd b.f1 ((r - 1 : Nat) : Int)) = rd b.f1 ((r - 1 : Nat) : Int)) := by
  unfold eff
  have h1 := g.some_
  have h2 := g.same
  by_cases h0 : r = 0
  · rw [if_pos h0]; exact ⟨h1, fun h => absurd h0 h⟩
  · rw [if_neg h0]
    have h3 := g.index (r - 1) (by omega)
    have h4 := g.wi.rd ((r - 1 : Nat) : Int)
    exact ⟨by omega, fun _ => ⟨by omega, w64 (by omega) (by omega)⟩⟩
theorem state_f (g : Fine b) {r : Nat} (hr : r ≤ b.f0.length) : lookup_State.f b.f0 b.f1 b.f2 b.f3 b.f4 b.f5 b.f6 (r : Int) = some (shown b (eff b r)) := by
  obtain ⟨h1, h2⟩ := eff_lt g hr
  have h3 := g.same
  have h5 := g.times
  unfold lookup_State.f
  by_cases h0 : r = 0
  · subst h0
    rw [if_pos (by omega)]
    have := tr_f g (i := 0) g.some_
    rw [show (0 : Int) = ((0 : Nat) : Int) from rfl, this, Option.bind_some]
    rfl
  · obtain ⟨h4, h6⟩ := h2 h0
    have e1 : wrap64 ((r : Int) - 1) = ((r - 1 : Nat) : Int) := by rw [w64 (by omega) (by omega)]; omega
    rw [if_neg (by omega), e1, if_pos (by omega), if_pos (by omega), h6, ← h4, tr_f g h1, Option.bind_some]
end Go.Proofs.Ytfminjencigfeaa.Pure
