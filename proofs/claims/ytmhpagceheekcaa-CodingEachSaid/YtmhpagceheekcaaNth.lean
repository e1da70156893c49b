/- The document's numbers, by bytes -/
import Derived.Test.YtmhpagceheekcaaJ13
set_option linter.unusedSimpArgs false
set_option linter.unusedVariables false
namespace Go.Proofs.Ytmhpagceheekcaa
open Go.RowKit FdP FdP.Ch
def tabNil : Tab := []
theorem tabNil_ok : tabNil.OK Try.prog := tab_nil _
end Go.Proofs.Ytmhpagceheekcaa
