/- joined: Opn -/
import Derived.Test.YtmhpagceheekcaaJ11
import Derived.WalkKit
import Derived.ProofKit
import Derived.OpenShut
import Derived.ChangeOld
import Derived.Below
import Derived.ChangeSlices
set_option linter.unusedSimpArgs false
set_option linter.unusedVariables false
/- An array of bytes as an argument. -/
namespace Go.Proofs.Ytmhpagceheekcaa
open Go.ChangeShapes Go.WideShapes Go.ChangeAt Go.RowKit

theorem okWide_arr {P : Program} {w : World} {r : Reach} {base : Nat} {t : TypeId} {v : Value} {n : Nat} {e : TypeId} (ht : P.underlying t = some (.array n e)) (h : Value.okWide P w r base t v) : ∃ cs : Array Value, v = .agg cs ∧ cs.size = P.cellsOf t := by
 simp only [Value.okWide, ht] at h
 obtain ⟨cs, h1, h2, _⟩ := h
 exact ⟨cs, h1, h2⟩

theorem cells_u8 : Try.prog.cellsOf 5 = 1 := by kernel_rfl

theorem one_of {α : Type} (l : List α) (i : Nat) (x : α) (h : (l.drop (i * 1)).take 1 = [x]) : l[i]? = some x := by
 rw [Nat.mul_one] at h
 have := congrArg (·[0]?) h
 simpa [List.getElem?_take, List.getElem?_drop] using this

end Go.Proofs.Ytmhpagceheekcaa
