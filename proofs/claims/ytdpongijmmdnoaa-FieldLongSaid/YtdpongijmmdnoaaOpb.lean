/- A slice of bytes as an argument of a law. -/
import Derived.Test.YtdpongijmmdnoaaJ12
import Derived.Test.YtdpongijmmdnoaaJ11
set_option linter.unusedSimpArgs false
set_option linter.unusedVariables false
namespace Go.Proofs.Ytdpongijmmdnoaa
open Go.ChangeShapes Go.WideShapes Go.ChangeAt Go.RowKit

end Go.Proofs.Ytdpongijmmdnoaa
