/- Chapter 8: spots -/
import Derived.Test.YtohebkkiicbdoaaPnu
set_option linter.unusedSimpArgs false
set_option linter.unusedVariables false
namespace Go.Proofs.Ytohebkkiicbdoaa
open Go.RowKit FdP FdP.Ch
theorem dbl_odd {N j : Nat} {g : G} (h : N / 2 ^ j % 2 = 1) : mulG (N / 2 ^ (j + 1)) g + mulG (N / 2 ^ (j + 1)) g + g = mulG (N / 2 ^ j) g := by
 rw [half_step N j, h, mulG_add, mulG_add, mulG_one]
theorem dbl_even {N j : Nat} {g : G} (h : N / 2 ^ j % 2 = 0) : mulG (N / 2 ^ (j + 1)) g + mulG (N / 2 ^ (j + 1)) g = mulG (N / 2 ^ j) g := by
 rw [half_step N j, h, mulG_add, mulG_add, mulG_zero, G.add_zero]
end Go.Proofs.Ytohebkkiicbdoaa
