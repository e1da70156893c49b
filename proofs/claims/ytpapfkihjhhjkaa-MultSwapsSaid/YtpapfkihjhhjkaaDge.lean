/- Sums of bytes, cut; noughts behind: plain. -/
import Derived.Test.YtpapfkihjhhjkaaRfs
import Derived.Test.YtpapfkihjhhjkaaDgp
set_option linter.unusedSimpArgs false
set_option linter.unusedVariables false
namespace Go.Proofs.Ytpapfkihjhhjkaa
open FdP FdP.Ch
theorem cutN_val (l : List Int) : ∀ k, bval (l.take (cutN l k)) = bval (l.take k)
  | 0 => rfl
  | k + 1 => by
    unfold cutN
    split
    · rename_i h
      rw [cutN_val l k, bval_take, h, Int.zero_mul, Int.add_zero]
    · rfl
theorem cutL_val (l : List Int) : bval (cutL l) = bval l := by
  unfold cutL; rw [cutN_val, List.take_length]
theorem cutL_by {l : List Int} (h : By l) : By (cutL l) := fun x hx => h x (List.mem_of_mem_take hx)
theorem cutL_len (l : List Int) : (cutL l).length ≤ l.length := by unfold cutL; rw [List.length_take]; omega
end Go.Proofs.Ytpapfkihjhhjkaa
