/- For all sizes, limits and lists the functions of sizes return what the reference returns: the plain law behind the walk. No condition. -/
import Derived.Test.YtljompndopfflaaWWords
import Derived.Test.YtljompndopfflaaWMore
import Derived.Test.YtljompndopfflaaOwn
import Derived.Test.YtljompndopfflaaGx10
import Derived.Test.YtljompndopfflaaBase
import Derived.Test.YtljompndopfflaaSiz
import Derived.Test.YtljompndopfflaaL03
set_option linter.unusedVariables false
namespace Go.Proofs.Ytljompndopfflaa.Pure
open Go.RowKit Go.Proofs.Ytljompndopfflaa.G Go.Proofs.YtljompndopfflaaW.PrintWords Go.Proofs.YtljompndopfflaaW.PrintLast

theorem SizesMatchReference : zoneinfolaw03_SizesMatchReference.Pure := by
  intro a b lim l m ha hb hlim _ _ hl _ _ hm
  have wa := wf_u64 ha
  have wb := wf_u64 hb
  have wl := wf_u64 hlim
  have hl := AllU.of hl
  have hm := AllU.of hm
  refine ⟨4000 + 1, ?_⟩
  unfold zoneinfolaw03_SizesMatchReference.f
  have aw := awake03 4000 (by omega)
  have out : zoneinfolaw03_SizesMatchReference.j0 (4000 + 1) a b lim l m true = some true := by
    simp only [zoneinfolaw03_SizesMatchReference.j0, if_true]
    exact bnd aw rfl
  refine bnd (awake03 _ (by omega)) ?_
  rw [if_pos rfl]
  by_cases h1 : (l.length : Int) > 100
  · rw [if_pos h1]; exact out
  · rw [if_neg h1]
    by_cases h2 : (m.length : Int) > 100
    · rw [decide_eq_true h2]; exact out
    · rw [decide_eq_false h2]
      simp only [zoneinfolaw03_SizesMatchReference.j0]
      rw [if_neg (by decide)]
      refine bnd (add_f a b lim wa wb wl) ?_
      refine bnd (radd_f a b lim wa wb wl) ?_
      refine bnd (mul_f a b lim wa wb wl) ?_
      refine bnd (rmul_f a b lim wa wb wl) ?_
      refine bnd (total_f l m hl hm lim wl (by omega) _ (by omega)) ?_
      refine bnd (rtotal_f l m hl hm lim wl (by omega) (by omega) _ (by omega)) ?_
      rw [if_pos rfl, if_pos (by simp), if_pos rfl, if_pos (by simp), if_pos rfl]
      simp
end Go.Proofs.Ytljompndopfflaa.Pure
