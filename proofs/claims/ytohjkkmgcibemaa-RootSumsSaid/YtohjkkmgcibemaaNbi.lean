/- The document's numbers: bits -/
import Derived.Test.YtohjkkmgcibemaaNth
set_option linter.unusedSimpArgs false
set_option linter.unusedVariables false
namespace Go.Proofs.Ytohjkkmgcibemaa
open Go.RowKit FdP FdP.Ch
end Go.Proofs.Ytohjkkmgcibemaa
