/- joined: Opn -/
import Derived.Test.YtpapfkihjhhjkaaGreatJ11
import Derived.WalkKit
import Derived.ProofKit
import Derived.OpenShut
import Derived.ChangeOld
import Derived.Below
import Derived.ChangeSlices
set_option linter.unusedSimpArgs false
set_option linter.unusedVariables false
/- An array of bytes as an argument. -/
namespace Go.Proofs.YtpapfkihjhhjkaaGreat
open Go.ChangeShapes Go.WideShapes Go.ChangeAt Go.RowKit

theorem cells_u8 : Tryz.prog.cellsOf 5 = 1 := by kernel_rfl

end Go.Proofs.YtpapfkihjhhjkaaGreat
