/- The document's numbers, by bytes -/
import Derived.Test.YtohjkkmgcibemaaJ13
set_option linter.unusedSimpArgs false
set_option linter.unusedVariables false
namespace Go.Proofs.Ytohjkkmgcibemaa
open Go.RowKit FdP FdP.Ch
def cutN (l : List Int) : Nat → Nat
 | 0 => 0
 | n + 1 => if l.getD n 0 = 0 then cutN l n else n + 1
def cutL (l : List Int) : List Int := l.take (cutN l l.length)
end Go.Proofs.Ytohjkkmgcibemaa
