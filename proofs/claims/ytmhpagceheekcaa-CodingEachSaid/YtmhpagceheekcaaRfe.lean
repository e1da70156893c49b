/- The document's powers -/
import Derived.Test.YtmhpagceheekcaaNbi
import Derived.Test.YtmhpagceheekcaaJ13
set_option linter.unusedSimpArgs false
set_option linter.unusedVariables false
namespace Go.Proofs.Ytmhpagceheekcaa
open Go.RowKit FdP FdP.Ch
end Go.Proofs.Ytmhpagceheekcaa
