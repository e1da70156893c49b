/-
  No cell of these rows narrows 'for every input' (looked for: loops, veiled, ifaces, maps, wideKeys, modest, calm, conditions, laid).
  DERIVED. THE GIVEN ROWS OF THIS SEAT. 3 by the template 'for every input the law returns true; each argument reads behind the call as it read before'; 0 by the template 'total and deterministic' (their statements: YtpapfkihjhhjkaaTotals.lean).
  GIVEN WITH THE SEED: the statements are not yours to turn. If you find one false, say at which input.
  Laid BY PROGRAM, IN A SANDBOX (cutbox-rows.mjs): the forced cells as the released guide's own fill.sh prints them over the translation 26e3e53200aaa085… (all of the seat's roots in one cut). By AI agents, Wed Nov 11 2026. No macro, syntax, notation, axiom, sorry.
-/
import Derived.Test.YtpapfkihjhhjkaaChecked
import GoSem.Claim
import GoSem.ClaimJoined
import GoSem.ClaimMapViews
import Derived.JoinedTies
import Derived.KernelRfl
namespace Go.Proofs.Ytpapfkihjhhjkaa
/- THE CELL 'sum', in the pinned program and in every row, IS THE sha256 OF THE DUMP (.gsa) THAT YtpapfkihjhhjkaaProg.lean LOADS. Nothing in Lean hashes anything: it is a label: what it is worth is what the hold of that sum in a sandbox is worth. -/
noncomputable def Try.pinned : Pinned := { name := "ytpapfkihjhhjkaa", sum := "26e3e53200aaa085f19b0f2a18aa99a2d99f6bdff89756f8ea03cb7067f9a6b0", checked := Try.checked }
namespace Rows
def none {H : Type} : Left H := { results := [], args := [] }

/-- 'chicorylaw12.MultSwaps': WHATEVER THE INPUT: true; the input reads as it did. -/
def multSwapsSpec : ChangeSpec := { name := "multSwaps", fn := fun _ => fun
  | [d1, d2] => { results := [.lit (.bool true)], args := [d1, d2] }
  | _ => none }
def multSwapsRow : OpenClaim := { program := "ytpapfkihjhhjkaa", sum := "26e3e53200aaa085f19b0f2a18aa99a2d99f6bdff89756f8ea03cb7067f9a6b0", func := "chicory/chicorylaw12.MultSwaps", spec := "multSwaps", inPlace := ["math/bits.Sub64", "math/bits.Add64"], unfollowed := true, recurses := true, apart := false }
def MultSwapsSaid : Prop := multSwapsRow.holds Try.pinned (OpenSpec.ofChange multSwapsSpec)

/-- ITS FALSE NEIGHBOUR: 'it returns false'. Refute it at one input. -/
def multSwapsWrong : ChangeSpec := { name := "multSwaps", fn := fun _ => fun
  | [d1, d2] => { results := [.lit (.bool false)], args := [d1, d2] }
  | _ => none }
def MultSwapsWrongFalsely : Prop := multSwapsRow.holds Try.pinned (OpenSpec.ofChange multSwapsWrong)

/-- 'chicorylaw12.MultTimes': WHATEVER THE INPUT: true; the input reads as it did. -/
def multTimesSpec : ChangeSpec := { name := "multTimes", fn := fun _ => fun
  | [d1, d2] => { results := [.lit (.bool true)], args := [d1, d2] }
  | _ => none }
def multTimesRow : OpenClaim := { program := "ytpapfkihjhhjkaa", sum := "26e3e53200aaa085f19b0f2a18aa99a2d99f6bdff89756f8ea03cb7067f9a6b0", func := "chicory/chicorylaw12.MultTimes", spec := "multTimes", inPlace := ["math/bits.Sub64", "math/bits.Add64"], unfollowed := true, recurses := true, apart := false }
def MultTimesSaid : Prop := multTimesRow.holds Try.pinned (OpenSpec.ofChange multTimesSpec)

/-- ITS FALSE NEIGHBOUR: 'it returns false'. Refute it at one input. -/
def multTimesWrong : ChangeSpec := { name := "multTimes", fn := fun _ => fun
  | [d1, d2] => { results := [.lit (.bool false)], args := [d1, d2] }
  | _ => none }
def MultTimesWrongFalsely : Prop := multTimesRow.holds Try.pinned (OpenSpec.ofChange multTimesWrong)

/-- 'chicorylaw12.MultParts': WHATEVER THE INPUT: true; the input reads as it did. -/
def multPartsSpec : ChangeSpec := { name := "multParts", fn := fun _ => fun
  | [d1, d2] => { results := [.lit (.bool true)], args := [d1, d2] }
  | _ => none }
def multPartsRow : OpenClaim := { program := "ytpapfkihjhhjkaa", sum := "26e3e53200aaa085f19b0f2a18aa99a2d99f6bdff89756f8ea03cb7067f9a6b0", func := "chicory/chicorylaw12.MultParts", spec := "multParts", inPlace := ["math/bits.Sub64", "math/bits.Add64"], unfollowed := true, recurses := true, apart := false }
def MultPartsSaid : Prop := multPartsRow.holds Try.pinned (OpenSpec.ofChange multPartsSpec)

/-- ITS FALSE NEIGHBOUR: 'it returns false'. Refute it at one input. -/
def multPartsWrong : ChangeSpec := { name := "multParts", fn := fun _ => fun
  | [d1, d2] => { results := [.lit (.bool false)], args := [d1, d2] }
  | _ => none }
def MultPartsWrongFalsely : Prop := multPartsRow.holds Try.pinned (OpenSpec.ofChange multPartsWrong)

/- THE SECOND FORM. 'bulk': how many values and letters a reading holds, each counted each time it is reached (what is shared counts as often as it is met; a slice's spare places count too). A statement '..UptoSaid' is the law's where the arguments, and the package variables that the reading takes, are together of bulk at most 1048576: NARROWER than '..Said'. Prove '..Said' where nothing that the law and all that it calls make is longer than what came in: it says more and counts as full. Else prove '..UptoSaid'. A law counts once. -/
mutual
def uptoBulk {H : Type} : DataW H → Nat
  | .lit (.string bytes) => bytes.length + 1
  | .lit _ => 1
  | .nil => 1
  | .ptr d => uptoBulk d + 1
  | .slice elems spare => uptoBulkAll elems + uptoBulkAll spare + 1
  | .agg parts => uptoBulkAll parts + 1
  | .iface _ d => uptoBulk d + 1
  | .map entries => uptoBulkEntries entries + 1
  | .held _ => 1
def uptoBulkAll {H : Type} : List (DataW H) → Nat
  | [] => 0
  | d :: r => uptoBulk d + uptoBulkAll r
def uptoBulkEntries {H : Type} : List (Lit × DataW H) → Nat
  | [] => 0
  | x :: r => uptoBulkEntry x + uptoBulkEntries r
def uptoBulkEntry {H : Type} : Lit × DataW H → Nat
  | (.string bytes, d) => bytes.length + uptoBulk d + 1
  | (_, d) => uptoBulk d + 1
 end
def uptoSmall : (H : Type) → List (DataW H) → Bool := fun _ ds => decide (uptoBulkAll ds ≤ 1048576)
def OpenSpec.upto (s : _root_.Go.ChangeSpec) : _root_.Go.OpenSpec := { _root_.Go.OpenSpec.ofChange s with cond := some uptoSmall }

/-- 'chicorylaw12.MultSwaps', WHERE WHAT IT READS IS OF BULK AT MOST 1048576: true; the input reads as it did. -/
def multSwapsUptoRow : OpenClaim := { program := "ytpapfkihjhhjkaa", sum := "26e3e53200aaa085f19b0f2a18aa99a2d99f6bdff89756f8ea03cb7067f9a6b0", func := "chicory/chicorylaw12.MultSwaps", spec := "multSwaps", inPlace := ["math/bits.Sub64", "math/bits.Add64"], unfollowed := true, recurses := true, apart := false, narrowed := true }
def MultSwapsUptoSaid : Prop := multSwapsUptoRow.holds Try.pinned (OpenSpec.upto multSwapsSpec)

/-- 'chicorylaw12.MultTimes', WHERE WHAT IT READS IS OF BULK AT MOST 1048576: true; the input reads as it did. -/
def multTimesUptoRow : OpenClaim := { program := "ytpapfkihjhhjkaa", sum := "26e3e53200aaa085f19b0f2a18aa99a2d99f6bdff89756f8ea03cb7067f9a6b0", func := "chicory/chicorylaw12.MultTimes", spec := "multTimes", inPlace := ["math/bits.Sub64", "math/bits.Add64"], unfollowed := true, recurses := true, apart := false, narrowed := true }
def MultTimesUptoSaid : Prop := multTimesUptoRow.holds Try.pinned (OpenSpec.upto multTimesSpec)

/-- 'chicorylaw12.MultParts', WHERE WHAT IT READS IS OF BULK AT MOST 1048576: true; the input reads as it did. -/
def multPartsUptoRow : OpenClaim := { program := "ytpapfkihjhhjkaa", sum := "26e3e53200aaa085f19b0f2a18aa99a2d99f6bdff89756f8ea03cb7067f9a6b0", func := "chicory/chicorylaw12.MultParts", spec := "multParts", inPlace := ["math/bits.Sub64", "math/bits.Add64"], unfollowed := true, recurses := true, apart := false, narrowed := true }
def MultPartsUptoSaid : Prop := multPartsUptoRow.holds Try.pinned (OpenSpec.upto multPartsSpec)

end Rows
end Go.Proofs.Ytpapfkihjhhjkaa
