/- The document's powers -/
import Derived.Test.YtohjkkmgcibemaaNbi
import Derived.Test.YtohjkkmgcibemaaJ13
set_option linter.unusedSimpArgs false
set_option linter.unusedVariables false
namespace Go.Proofs.Ytohjkkmgcibemaa
open Go.RowKit FdP FdP.Ch
theorem pow_odd {N j : Nat} {x : F} (h : N / 2 ^ j % 2 = 1) : x ^ (N / 2 ^ (j + 1)) * x ^ (N / 2 ^ (j + 1)) * x = x ^ (N / 2 ^ j) := by
 conv => rhs; rw [half_step N j, h, pow_add, pow_add]
 have : x ^ 1 = x := by grind
 rw [this]
theorem pow_even {N j : Nat} {x : F} (h : N / 2 ^ j % 2 = 0) : x ^ (N / 2 ^ (j + 1)) * x ^ (N / 2 ^ (j + 1)) = x ^ (N / 2 ^ j) := by
 conv => rhs; rw [half_step N j, h, Nat.add_zero, pow_add]
def PB : List Int := rawF primeL
end Go.Proofs.Ytohjkkmgcibemaa
