/- The document's sums, shifts, roots -/
import Derived.Test.YtohjkkmgcibemaaRfe
import Derived.Test.YtohjkkmgcibemaaVr
set_option linter.unusedSimpArgs false
set_option linter.unusedVariables false
namespace Go.Proofs.Ytohjkkmgcibemaa
open Go.RowKit FdP FdP.Ch
def addB (a b : List Int) : Nat → Int × List Int
 | 0 => (0, [])
 | i + 1 => (((addB a b i).1 + a.getD i 0 + b.getD i 0) / 256, (addB a b i).2 ++ [((addB a b i).1 + a.getD i 0 + b.getD i 0) % 256])
def mxl (a b : List Int) : Nat := if a.length < b.length then b.length else a.length
def addM (a b : List Int) : Nat := if 0 < (addB a b (mxl a b)).1 then mxl a b + 1 else mxl a b
def addL (a b : List Int) : List Int := (addB a b (addM a b)).2
def A1 : List Int := cutL (addL PB [1])
end Go.Proofs.Ytohjkkmgcibemaa
