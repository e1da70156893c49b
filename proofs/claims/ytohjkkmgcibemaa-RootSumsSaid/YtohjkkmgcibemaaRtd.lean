/- RootScales' walk -/
import Derived.Test.YtohjkkmgcibemaaVr
import Derived.Test.YtohjkkmgcibemaaRtb
set_option linter.unusedSimpArgs false
set_option linter.unusedVariables false
namespace Go.Proofs.Ytohjkkmgcibemaa
open Go.RowKit FdP FdP.Ch
def tb_awake5 : FuncId × Trans := (16, tTrue)
theorem tb_awake5_ok : Con Try.prog tb_awake5.1 tb_awake5.2 := con_True awake5_c
end Go.Proofs.Ytohjkkmgcibemaa
