/- A slice of bytes as an argument of a law. -/
import Derived.Test.YtohjkkmgcibemaaJ12
import Derived.Test.YtohjkkmgcibemaaJ11
set_option linter.unusedSimpArgs false
set_option linter.unusedVariables false
namespace Go.Proofs.Ytohjkkmgcibemaa
open Go.ChangeShapes Go.WideShapes Go.ChangeAt Go.RowKit

end Go.Proofs.Ytohjkkmgcibemaa
