/- The document's points: Affine, Times, Base -/
import Derived.Test.YtmhpagceheekcaaPnr
import Derived.Test.YtmhpagceheekcaaRfe
set_option linter.unusedSimpArgs false
set_option linter.unusedVariables false
namespace Go.Proofs.Ytmhpagceheekcaa
open Go.RowKit FdP FdP.Ch
def tSub (g : Trans) : Trans := fun zs Q => ∃ ys, Subs zs ys ∧ g ys Q
theorem con_tSub {P : Program} {fn : FuncId} {g : Trans} (hc : Con P fn g) : Con P fn (tSub g) := fun w x vals zs Q hx hv ⟨ys, hs, hg⟩ => hc w x vals ys Q hx (hs.ok hv) hg

end Go.Proofs.Ytmhpagceheekcaa
