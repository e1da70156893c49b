/- Spots and plans of chapter 11 as arguments. -/
import Derived.Test.YtdpongijmmdnoaaOpb
set_option linter.unusedSimpArgs false
set_option linter.unusedVariables false
namespace Go.Proofs.Ytdpongijmmdnoaa
open Go.ChangeShapes Go.WideShapes Go.ChangeAt Go.RowKit
theorem i64_wf' {n : Int} (h : (Lit.int .i64 n).wf = true) : I64 n := by
 obtain ⟨r1, r2⟩ := bounds_i64 h
 exact ⟨r1, by omega⟩
theorem cells_intL : Try.prog.cellsOf 3 = 1 := by kernel_rfl
end Go.Proofs.Ytdpongijmmdnoaa
