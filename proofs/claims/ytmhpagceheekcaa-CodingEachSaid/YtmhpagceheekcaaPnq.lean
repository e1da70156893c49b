/- Chapter 8: laws with the document's answer -/
import Derived.Test.YtmhpagceheekcaaRpt
import Derived.Test.YtmhpagceheekcaaPnx
set_option linter.unusedSimpArgs false
set_option linter.unusedVariables false
namespace Go.Proofs.Ytmhpagceheekcaa
open Go.RowKit FdP FdP.Ch
end Go.Proofs.Ytmhpagceheekcaa
