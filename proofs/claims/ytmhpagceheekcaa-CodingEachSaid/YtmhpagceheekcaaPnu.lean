/- Chapter 8: the base, spots -/
import Derived.Test.YtmhpagceheekcaaPnt
import Derived.Test.YtmhpagceheekcaaJ13
set_option linter.unusedSimpArgs false
set_option linter.unusedVariables false
namespace Go.Proofs.Ytmhpagceheekcaa
open Go.RowKit FdP FdP.Ch
def HexOK (c : List Int) : Prop := ∀ i : Nat, i < 112 → (48 ≤ c.getD i 0 ∧ c.getD i 0 ≤ 57) ∨ (97 ≤ c.getD i 0 ∧ c.getD i 0 ≤ 102)
instance (c : List Int) : Decidable (HexOK c) := by unfold HexOK; infer_instance
end Go.Proofs.Ytmhpagceheekcaa
