/- Two spots as an argument. -/
import Derived.Test.YtohebkkiicbdoaaOpc
set_option linter.unusedSimpArgs false
set_option linter.unusedVariables false
namespace Go.Proofs.Ytohebkkiicbdoaa
open Go.ChangeShapes Go.WideShapes Go.ChangeAt Go.RowKit
end Go.Proofs.Ytohebkkiicbdoaa
