/-
  No cell of these rows narrows 'for every input' (looked for: loops, veiled, ifaces, maps, wideKeys, modest, calm, conditions, laid).
  DERIVED. THE GIVEN ROWS OF THIS SEAT. 5 by the template 'for every input the law returns true; each argument reads behind the call as it read before'; 0 by the template 'total and deterministic' (their statements: YtmhpagceheekcaaTotals.lean).
  GIVEN WITH THE SEED: the statements are not yours to turn. If you find one false, say at which input.
  Laid BY PROGRAM, IN A SANDBOX (cutbox-rows.mjs): the forced cells as the released guide's own fill.sh prints them over the translation bcdf59daaaefe45a… (all of the seat's roots in one cut). By AI agents, Wed Nov 11 2026. No macro, syntax, notation, axiom, sorry.
-/
import Derived.Test.YtmhpagceheekcaaChecked
import GoSem.Claim
import GoSem.ClaimJoined
import GoSem.ClaimMapViews
import Derived.JoinedTies
import Derived.KernelRfl
namespace Go.Proofs.Ytmhpagceheekcaa
/- THE CELL 'sum', in the pinned program and in every row, IS THE sha256 OF THE DUMP (.gsa) THAT YtmhpagceheekcaaProg.lean LOADS. Nothing in Lean hashes anything: it is a label: what it is worth is what the hold of that sum in a sandbox is worth. -/
noncomputable def Try.pinned : Pinned := { name := "ytmhpagceheekcaa", sum := "bcdf59daaaefe45a14e8aa1ab30283f1be276fe31fccca7d98d279d4a8d07ef4", checked := Try.checked }
namespace Rows
def none {H : Type} : Left H := { results := [], args := [] }

/-- 'chicorylaw09.CodingReads': WHATEVER THE INPUT: true; the input reads as it did. -/
def codingReadsSpec : ChangeSpec := { name := "codingReads", fn := fun _ => fun
  | [d] => { results := [.lit (.bool true)], args := [d] }
  | _ => none }
def codingReadsRow : OpenClaim := { program := "ytmhpagceheekcaa", sum := "bcdf59daaaefe45a14e8aa1ab30283f1be276fe31fccca7d98d279d4a8d07ef4", func := "chicory/chicorylaw09.CodingReads", spec := "codingReads", inPlace := ["math/bits.Add64", "math/bits.Sub64"], unfollowed := true, recurses := true, apart := false }
def CodingReadsSaid : Prop := codingReadsRow.holds Try.pinned (OpenSpec.ofChange codingReadsSpec)

/-- ITS FALSE NEIGHBOUR: 'it returns false'. Refute it at one input. -/
def codingReadsWrong : ChangeSpec := { name := "codingReads", fn := fun _ => fun
  | [d] => { results := [.lit (.bool false)], args := [d] }
  | _ => none }
def CodingReadsWrongFalsely : Prop := codingReadsRow.holds Try.pinned (OpenSpec.ofChange codingReadsWrong)

/-- 'chicorylaw09.CodingEach': WHATEVER THE INPUT: true; the input reads as it did. -/
def codingEachSpec : ChangeSpec := { name := "codingEach", fn := fun _ => fun
  | [d] => { results := [.lit (.bool true)], args := [d] }
  | _ => none }
def codingEachRow : OpenClaim := { program := "ytmhpagceheekcaa", sum := "bcdf59daaaefe45a14e8aa1ab30283f1be276fe31fccca7d98d279d4a8d07ef4", func := "chicory/chicorylaw09.CodingEach", spec := "codingEach", inPlace := ["math/bits.Sub64", "math/bits.Add64"], unfollowed := true, recurses := true, apart := false }
def CodingEachSaid : Prop := codingEachRow.holds Try.pinned (OpenSpec.ofChange codingEachSpec)

/-- ITS FALSE NEIGHBOUR: 'it returns false'. Refute it at one input. -/
def codingEachWrong : ChangeSpec := { name := "codingEach", fn := fun _ => fun
  | [d] => { results := [.lit (.bool false)], args := [d] }
  | _ => none }
def CodingEachWrongFalsely : Prop := codingEachRow.holds Try.pinned (OpenSpec.ofChange codingEachWrong)

/-- 'chicorylaw09.CodingWrites': WHATEVER THE INPUT: true; the input reads as it did. -/
def codingWritesSpec : ChangeSpec := { name := "codingWrites", fn := fun _ => fun
  | [d] => { results := [.lit (.bool true)], args := [d] }
  | _ => none }
def codingWritesRow : OpenClaim := { program := "ytmhpagceheekcaa", sum := "bcdf59daaaefe45a14e8aa1ab30283f1be276fe31fccca7d98d279d4a8d07ef4", func := "chicory/chicorylaw09.CodingWrites", spec := "codingWrites", inPlace := ["math/bits.Add64", "math/bits.Sub64"], unfollowed := true, recurses := true, apart := false }
def CodingWritesSaid : Prop := codingWritesRow.holds Try.pinned (OpenSpec.ofChange codingWritesSpec)

/-- ITS FALSE NEIGHBOUR: 'it returns false'. Refute it at one input. -/
def codingWritesWrong : ChangeSpec := { name := "codingWrites", fn := fun _ => fun
  | [d] => { results := [.lit (.bool false)], args := [d] }
  | _ => none }
def CodingWritesWrongFalsely : Prop := codingWritesRow.holds Try.pinned (OpenSpec.ofChange codingWritesWrong)

/-- 'chicorylaw09.CodingBack': WHATEVER THE INPUT: true; the input reads as it did. -/
def codingBackSpec : ChangeSpec := { name := "codingBack", fn := fun _ => fun
  | [d1, d2] => { results := [.lit (.bool true)], args := [d1, d2] }
  | _ => none }
def codingBackRow : OpenClaim := { program := "ytmhpagceheekcaa", sum := "bcdf59daaaefe45a14e8aa1ab30283f1be276fe31fccca7d98d279d4a8d07ef4", func := "chicory/chicorylaw09.CodingBack", spec := "codingBack", inPlace := ["math/bits.Add64", "math/bits.Sub64"], unfollowed := true, recurses := true, apart := false }
def CodingBackSaid : Prop := codingBackRow.holds Try.pinned (OpenSpec.ofChange codingBackSpec)

/-- ITS FALSE NEIGHBOUR: 'it returns false'. Refute it at one input. -/
def codingBackWrong : ChangeSpec := { name := "codingBack", fn := fun _ => fun
  | [d1, d2] => { results := [.lit (.bool false)], args := [d1, d2] }
  | _ => none }
def CodingBackWrongFalsely : Prop := codingBackRow.holds Try.pinned (OpenSpec.ofChange codingBackWrong)

/-- 'chicorylaw09.CodingSame': WHATEVER THE INPUT: true; the input reads as it did. -/
def codingSameSpec : ChangeSpec := { name := "codingSame", fn := fun _ => fun
  | [d1, d2] => { results := [.lit (.bool true)], args := [d1, d2] }
  | _ => none }
def codingSameRow : OpenClaim := { program := "ytmhpagceheekcaa", sum := "bcdf59daaaefe45a14e8aa1ab30283f1be276fe31fccca7d98d279d4a8d07ef4", func := "chicory/chicorylaw09.CodingSame", spec := "codingSame", inPlace := ["math/bits.Add64", "math/bits.Sub64"], unfollowed := true, recurses := true, apart := false }
def CodingSameSaid : Prop := codingSameRow.holds Try.pinned (OpenSpec.ofChange codingSameSpec)

/-- ITS FALSE NEIGHBOUR: 'it returns false'. Refute it at one input. -/
def codingSameWrong : ChangeSpec := { name := "codingSame", fn := fun _ => fun
  | [d1, d2] => { results := [.lit (.bool false)], args := [d1, d2] }
  | _ => none }
def CodingSameWrongFalsely : Prop := codingSameRow.holds Try.pinned (OpenSpec.ofChange codingSameWrong)

/- THE SECOND FORM. 'bulk': how many values and letters a reading holds, each counted each time it is reached (what is shared counts as often as it is met; a slice's spare places count too). A statement '..UptoSaid' is the law's where the arguments, and the package variables that the reading takes, are together of bulk at most 1048576: NARROWER than '..Said'. Prove '..Said' where nothing that the law and all that it calls make is longer than what came in: it says more and counts as full. Else prove '..UptoSaid'. A law counts once. -/
mutual
def uptoBulk {H : Type} : DataW H → Nat
  | .lit (.string bytes) => bytes.length + 1
  | .lit _ => 1
  | .nil => 1
  | .ptr d => uptoBulk d + 1
  | .slice elems spare => uptoBulkAll elems + uptoBulkAll spare + 1
  | .agg parts => uptoBulkAll parts + 1
  | .iface _ d => uptoBulk d + 1
  | .map entries => uptoBulkEntries entries + 1
  | .held _ => 1
def uptoBulkAll {H : Type} : List (DataW H) → Nat
  | [] => 0
  | d :: r => uptoBulk d + uptoBulkAll r
def uptoBulkEntries {H : Type} : List (Lit × DataW H) → Nat
  | [] => 0
  | x :: r => uptoBulkEntry x + uptoBulkEntries r
def uptoBulkEntry {H : Type} : Lit × DataW H → Nat
  | (.string bytes, d) => bytes.length + uptoBulk d + 1
  | (_, d) => uptoBulk d + 1
 end
def uptoSmall : (H : Type) → List (DataW H) → Bool := fun _ ds => decide (uptoBulkAll ds ≤ 1048576)
def OpenSpec.upto (s : _root_.Go.ChangeSpec) : _root_.Go.OpenSpec := { _root_.Go.OpenSpec.ofChange s with cond := some uptoSmall }

/-- 'chicorylaw09.CodingReads', WHERE WHAT IT READS IS OF BULK AT MOST 1048576: true; the input reads as it did. -/
def codingReadsUptoRow : OpenClaim := { program := "ytmhpagceheekcaa", sum := "bcdf59daaaefe45a14e8aa1ab30283f1be276fe31fccca7d98d279d4a8d07ef4", func := "chicory/chicorylaw09.CodingReads", spec := "codingReads", inPlace := ["math/bits.Add64", "math/bits.Sub64"], unfollowed := true, recurses := true, apart := false, narrowed := true }
def CodingReadsUptoSaid : Prop := codingReadsUptoRow.holds Try.pinned (OpenSpec.upto codingReadsSpec)

/-- 'chicorylaw09.CodingEach', WHERE WHAT IT READS IS OF BULK AT MOST 1048576: true; the input reads as it did. -/
def codingEachUptoRow : OpenClaim := { program := "ytmhpagceheekcaa", sum := "bcdf59daaaefe45a14e8aa1ab30283f1be276fe31fccca7d98d279d4a8d07ef4", func := "chicory/chicorylaw09.CodingEach", spec := "codingEach", inPlace := ["math/bits.Sub64", "math/bits.Add64"], unfollowed := true, recurses := true, apart := false, narrowed := true }
def CodingEachUptoSaid : Prop := codingEachUptoRow.holds Try.pinned (OpenSpec.upto codingEachSpec)

/-- 'chicorylaw09.CodingWrites', WHERE WHAT IT READS IS OF BULK AT MOST 1048576: true; the input reads as it did. -/
def codingWritesUptoRow : OpenClaim := { program := "ytmhpagceheekcaa", sum := "bcdf59daaaefe45a14e8aa1ab30283f1be276fe31fccca7d98d279d4a8d07ef4", func := "chicory/chicorylaw09.CodingWrites", spec := "codingWrites", inPlace := ["math/bits.Add64", "math/bits.Sub64"], unfollowed := true, recurses := true, apart := false, narrowed := true }
def CodingWritesUptoSaid : Prop := codingWritesUptoRow.holds Try.pinned (OpenSpec.upto codingWritesSpec)

/-- 'chicorylaw09.CodingBack', WHERE WHAT IT READS IS OF BULK AT MOST 1048576: true; the input reads as it did. -/
def codingBackUptoRow : OpenClaim := { program := "ytmhpagceheekcaa", sum := "bcdf59daaaefe45a14e8aa1ab30283f1be276fe31fccca7d98d279d4a8d07ef4", func := "chicory/chicorylaw09.CodingBack", spec := "codingBack", inPlace := ["math/bits.Add64", "math/bits.Sub64"], unfollowed := true, recurses := true, apart := false, narrowed := true }
def CodingBackUptoSaid : Prop := codingBackUptoRow.holds Try.pinned (OpenSpec.upto codingBackSpec)

/-- 'chicorylaw09.CodingSame', WHERE WHAT IT READS IS OF BULK AT MOST 1048576: true; the input reads as it did. -/
def codingSameUptoRow : OpenClaim := { program := "ytmhpagceheekcaa", sum := "bcdf59daaaefe45a14e8aa1ab30283f1be276fe31fccca7d98d279d4a8d07ef4", func := "chicory/chicorylaw09.CodingSame", spec := "codingSame", inPlace := ["math/bits.Add64", "math/bits.Sub64"], unfollowed := true, recurses := true, apart := false, narrowed := true }
def CodingSameUptoSaid : Prop := codingSameUptoRow.holds Try.pinned (OpenSpec.upto codingSameSpec)

end Rows
end Go.Proofs.Ytmhpagceheekcaa
