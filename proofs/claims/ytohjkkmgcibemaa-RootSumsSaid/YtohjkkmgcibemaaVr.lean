/- Contracts in plain words: package root. -/
import Derived.Test.YtohjkkmgcibemaaJ11
import Derived.Test.YtohjkkmgcibemaaRta
set_option linter.unusedSimpArgs false
set_option linter.unusedVariables false
namespace Go.Proofs.Ytohjkkmgcibemaa
open Go.RowKit FdP FdP.Ch
end Go.Proofs.Ytohjkkmgcibemaa
