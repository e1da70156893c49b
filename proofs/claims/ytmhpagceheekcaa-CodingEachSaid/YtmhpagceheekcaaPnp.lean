/- Chapter 8: PointOf -/
import Derived.Test.YtmhpagceheekcaaPnq
set_option linter.unusedSimpArgs false
set_option linter.unusedVariables false
namespace Go.Proofs.Ytmhpagceheekcaa
open Go.RowKit FdP FdP.Ch
end Go.Proofs.Ytmhpagceheekcaa
