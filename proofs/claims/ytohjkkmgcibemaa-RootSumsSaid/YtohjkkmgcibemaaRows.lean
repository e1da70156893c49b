/-
  No cell of these rows narrows 'for every input' (looked for: loops, veiled, ifaces, maps, wideKeys, modest, calm, conditions, laid).
  DERIVED. THE GIVEN ROWS OF THIS SEAT. 8 by the template 'for every input the law returns true; each argument reads behind the call as it read before'; 0 by the template 'total and deterministic' (their statements: YtohjkkmgcibemaaTotals.lean).
  GIVEN WITH THE SEED: the statements are not yours to turn. If you find one false, say at which input.
  Laid BY PROGRAM, IN A SANDBOX (cutbox-rows.mjs): the forced cells as the released guide's own fill.sh prints them over the translation bb9d46c40ffc8102… (all of the seat's roots in one cut). By AI agents, Wed Nov 11 2026. No macro, syntax, notation, axiom, sorry.
-/
import Derived.Test.YtohjkkmgcibemaaChecked
import GoSem.Claim
import GoSem.ClaimJoined
import GoSem.ClaimMapViews
import Derived.JoinedTies
import Derived.KernelRfl
namespace Go.Proofs.Ytohjkkmgcibemaa
/- THE CELL 'sum', in the pinned program and in every row, IS THE sha256 OF THE DUMP (.gsa) THAT YtohjkkmgcibemaaProg.lean LOADS. Nothing in Lean hashes anything: it is a label: what it is worth is what the hold of that sum in a sandbox is worth. -/
noncomputable def Try.pinned : Pinned := { name := "ytohjkkmgcibemaa", sum := "bb9d46c40ffc8102ad0fafed1b978f995d8d72c0d364e73ea42832f1829f7987", checked := Try.checked }
namespace Rows
def none {H : Type} : Left H := { results := [], args := [] }

/-- 'chicorylaw05.RootTakes': WHATEVER THE INPUT: true; the input reads as it did. -/
def rootTakesSpec : ChangeSpec := { name := "rootTakes", fn := fun _ => fun
  | [d] => { results := [.lit (.bool true)], args := [d] }
  | _ => none }
def rootTakesRow : OpenClaim := { program := "ytohjkkmgcibemaa", sum := "bb9d46c40ffc8102ad0fafed1b978f995d8d72c0d364e73ea42832f1829f7987", func := "chicory/chicorylaw05.RootTakes", spec := "rootTakes", inPlace := ["math/bits.Add64", "math/bits.Sub64"], unfollowed := true, recurses := true, apart := false }
def RootTakesSaid : Prop := rootTakesRow.holds Try.pinned (OpenSpec.ofChange rootTakesSpec)

/-- ITS FALSE NEIGHBOUR: 'it returns false'. Refute it at one input. -/
def rootTakesWrong : ChangeSpec := { name := "rootTakes", fn := fun _ => fun
  | [d] => { results := [.lit (.bool false)], args := [d] }
  | _ => none }
def RootTakesWrongFalsely : Prop := rootTakesRow.holds Try.pinned (OpenSpec.ofChange rootTakesWrong)

/-- 'chicorylaw05.RootRatios': WHATEVER THE INPUT: true; the input reads as it did. -/
def rootRatiosSpec : ChangeSpec := { name := "rootRatios", fn := fun _ => fun
  | [d1, d2] => { results := [.lit (.bool true)], args := [d1, d2] }
  | _ => none }
def rootRatiosRow : OpenClaim := { program := "ytohjkkmgcibemaa", sum := "bb9d46c40ffc8102ad0fafed1b978f995d8d72c0d364e73ea42832f1829f7987", func := "chicory/chicorylaw05.RootRatios", spec := "rootRatios", inPlace := ["math/bits.Add64", "math/bits.Sub64"], unfollowed := true, recurses := true, apart := false }
def RootRatiosSaid : Prop := rootRatiosRow.holds Try.pinned (OpenSpec.ofChange rootRatiosSpec)

/-- ITS FALSE NEIGHBOUR: 'it returns false'. Refute it at one input. -/
def rootRatiosWrong : ChangeSpec := { name := "rootRatios", fn := fun _ => fun
  | [d1, d2] => { results := [.lit (.bool false)], args := [d1, d2] }
  | _ => none }
def RootRatiosWrongFalsely : Prop := rootRatiosRow.holds Try.pinned (OpenSpec.ofChange rootRatiosWrong)

/-- 'chicorylaw05.RootScales': WHATEVER THE INPUT: true; the input reads as it did. -/
def rootScalesSpec : ChangeSpec := { name := "rootScales", fn := fun _ => fun
  | [d1, d2, d3] => { results := [.lit (.bool true)], args := [d1, d2, d3] }
  | _ => none }
def rootScalesRow : OpenClaim := { program := "ytohjkkmgcibemaa", sum := "bb9d46c40ffc8102ad0fafed1b978f995d8d72c0d364e73ea42832f1829f7987", func := "chicory/chicorylaw05.RootScales", spec := "rootScales", inPlace := ["math/bits.Add64", "math/bits.Sub64"], unfollowed := true, recurses := true, apart := false }
def RootScalesSaid : Prop := rootScalesRow.holds Try.pinned (OpenSpec.ofChange rootScalesSpec)

/-- ITS FALSE NEIGHBOUR: 'it returns false'. Refute it at one input. -/
def rootScalesWrong : ChangeSpec := { name := "rootScales", fn := fun _ => fun
  | [d1, d2, d3] => { results := [.lit (.bool false)], args := [d1, d2, d3] }
  | _ => none }
def RootScalesWrongFalsely : Prop := rootScalesRow.holds Try.pinned (OpenSpec.ofChange rootScalesWrong)

/-- 'chicorylaw05.RootInverts': WHATEVER THE INPUT: true; the input reads as it did. -/
def rootInvertsSpec : ChangeSpec := { name := "rootInverts", fn := fun _ => fun
  | [d] => { results := [.lit (.bool true)], args := [d] }
  | _ => none }
def rootInvertsRow : OpenClaim := { program := "ytohjkkmgcibemaa", sum := "bb9d46c40ffc8102ad0fafed1b978f995d8d72c0d364e73ea42832f1829f7987", func := "chicory/chicorylaw05.RootInverts", spec := "rootInverts", inPlace := ["math/bits.Add64", "math/bits.Sub64"], unfollowed := true, recurses := true, apart := false }
def RootInvertsSaid : Prop := rootInvertsRow.holds Try.pinned (OpenSpec.ofChange rootInvertsSpec)

/-- ITS FALSE NEIGHBOUR: 'it returns false'. Refute it at one input. -/
def rootInvertsWrong : ChangeSpec := { name := "rootInverts", fn := fun _ => fun
  | [d] => { results := [.lit (.bool false)], args := [d] }
  | _ => none }
def RootInvertsWrongFalsely : Prop := rootInvertsRow.holds Try.pinned (OpenSpec.ofChange rootInvertsWrong)

/-- 'chicorylaw05.RootWhole': WHATEVER THE INPUT: true; the input reads as it did. -/
def rootWholeSpec : ChangeSpec := { name := "rootWhole", fn := fun _ => fun
  | [d] => { results := [.lit (.bool true)], args := [d] }
  | _ => none }
def rootWholeRow : OpenClaim := { program := "ytohjkkmgcibemaa", sum := "bb9d46c40ffc8102ad0fafed1b978f995d8d72c0d364e73ea42832f1829f7987", func := "chicory/chicorylaw05.RootWhole", spec := "rootWhole", inPlace := ["math/bits.Add64", "math/bits.Sub64"], unfollowed := true, recurses := true, apart := false }
def RootWholeSaid : Prop := rootWholeRow.holds Try.pinned (OpenSpec.ofChange rootWholeSpec)

/-- ITS FALSE NEIGHBOUR: 'it returns false'. Refute it at one input. -/
def rootWholeWrong : ChangeSpec := { name := "rootWhole", fn := fun _ => fun
  | [d] => { results := [.lit (.bool false)], args := [d] }
  | _ => none }
def RootWholeWrongFalsely : Prop := rootWholeRow.holds Try.pinned (OpenSpec.ofChange rootWholeWrong)

/-- 'chicorylaw05.RootProves': WHATEVER THE INPUT: true; the input reads as it did. -/
def rootProvesSpec : ChangeSpec := { name := "rootProves", fn := fun _ => fun
  | [d1, d2] => { results := [.lit (.bool true)], args := [d1, d2] }
  | _ => none }
def rootProvesRow : OpenClaim := { program := "ytohjkkmgcibemaa", sum := "bb9d46c40ffc8102ad0fafed1b978f995d8d72c0d364e73ea42832f1829f7987", func := "chicory/chicorylaw05.RootProves", spec := "rootProves", inPlace := ["math/bits.Add64", "math/bits.Sub64"], unfollowed := true, recurses := true, apart := false }
def RootProvesSaid : Prop := rootProvesRow.holds Try.pinned (OpenSpec.ofChange rootProvesSpec)

/-- ITS FALSE NEIGHBOUR: 'it returns false'. Refute it at one input. -/
def rootProvesWrong : ChangeSpec := { name := "rootProves", fn := fun _ => fun
  | [d1, d2] => { results := [.lit (.bool false)], args := [d1, d2] }
  | _ => none }
def RootProvesWrongFalsely : Prop := rootProvesRow.holds Try.pinned (OpenSpec.ofChange rootProvesWrong)

/-- 'chicorylaw05.RootPowers': WHATEVER THE INPUT: true; the input reads as it did. -/
def rootPowersSpec : ChangeSpec := { name := "rootPowers", fn := fun _ => fun
  | [d1, d2] => { results := [.lit (.bool true)], args := [d1, d2] }
  | _ => none }
def rootPowersRow : OpenClaim := { program := "ytohjkkmgcibemaa", sum := "bb9d46c40ffc8102ad0fafed1b978f995d8d72c0d364e73ea42832f1829f7987", func := "chicory/chicorylaw05.RootPowers", spec := "rootPowers", inPlace := ["math/bits.Add64", "math/bits.Sub64"], unfollowed := true, recurses := true, apart := false }
def RootPowersSaid : Prop := rootPowersRow.holds Try.pinned (OpenSpec.ofChange rootPowersSpec)

/-- ITS FALSE NEIGHBOUR: 'it returns false'. Refute it at one input. -/
def rootPowersWrong : ChangeSpec := { name := "rootPowers", fn := fun _ => fun
  | [d1, d2] => { results := [.lit (.bool false)], args := [d1, d2] }
  | _ => none }
def RootPowersWrongFalsely : Prop := rootPowersRow.holds Try.pinned (OpenSpec.ofChange rootPowersWrong)

/-- 'chicorylaw05.RootSums': WHATEVER THE INPUT: true; the input reads as it did. -/
def rootSumsSpec : ChangeSpec := { name := "rootSums", fn := fun _ => fun
  | [d1, d2, d3] => { results := [.lit (.bool true)], args := [d1, d2, d3] }
  | _ => none }
def rootSumsRow : OpenClaim := { program := "ytohjkkmgcibemaa", sum := "bb9d46c40ffc8102ad0fafed1b978f995d8d72c0d364e73ea42832f1829f7987", func := "chicory/chicorylaw05.RootSums", spec := "rootSums", inPlace := ["math/bits.Add64", "math/bits.Sub64"], unfollowed := true, recurses := true, apart := false }
def RootSumsSaid : Prop := rootSumsRow.holds Try.pinned (OpenSpec.ofChange rootSumsSpec)

/-- ITS FALSE NEIGHBOUR: 'it returns false'. Refute it at one input. -/
def rootSumsWrong : ChangeSpec := { name := "rootSums", fn := fun _ => fun
  | [d1, d2, d3] => { results := [.lit (.bool false)], args := [d1, d2, d3] }
  | _ => none }
def RootSumsWrongFalsely : Prop := rootSumsRow.holds Try.pinned (OpenSpec.ofChange rootSumsWrong)

/- THE SECOND FORM. 'bulk': how many values and letters a reading holds, each counted each time it is reached (what is shared counts as often as it is met; a slice's spare places count too). A statement '..UptoSaid' is the law's where the arguments, and the package variables that the reading takes, are together of bulk at most 1048576: NARROWER than '..Said'. Prove '..Said' where nothing that the law and all that it calls make is longer than what came in: it says more and counts as full. Else prove '..UptoSaid'. A law counts once. -/
mutual
def uptoBulk {H : Type} : DataW H → Nat
  | .lit (.string bytes) => bytes.length + 1
  | .lit _ => 1
  | .nil => 1
  | .ptr d => uptoBulk d + 1
  | .slice elems spare => uptoBulkAll elems + uptoBulkAll spare + 1
  | .agg parts => uptoBulkAll parts + 1
  | .iface _ d => uptoBulk d + 1
  | .map entries => uptoBulkEntries entries + 1
  | .held _ => 1
def uptoBulkAll {H : Type} : List (DataW H) → Nat
  | [] => 0
  | d :: r => uptoBulk d + uptoBulkAll r
def uptoBulkEntries {H : Type} : List (Lit × DataW H) → Nat
  | [] => 0
  | x :: r => uptoBulkEntry x + uptoBulkEntries r
def uptoBulkEntry {H : Type} : Lit × DataW H → Nat
  | (.string bytes, d) => bytes.length + uptoBulk d + 1
  | (_, d) => uptoBulk d + 1
 end
def uptoSmall : (H : Type) → List (DataW H) → Bool := fun _ ds => decide (uptoBulkAll ds ≤ 1048576)
def OpenSpec.upto (s : _root_.Go.ChangeSpec) : _root_.Go.OpenSpec := { _root_.Go.OpenSpec.ofChange s with cond := some uptoSmall }

/-- 'chicorylaw05.RootTakes', WHERE WHAT IT READS IS OF BULK AT MOST 1048576: true; the input reads as it did. -/
def rootTakesUptoRow : OpenClaim := { program := "ytohjkkmgcibemaa", sum := "bb9d46c40ffc8102ad0fafed1b978f995d8d72c0d364e73ea42832f1829f7987", func := "chicory/chicorylaw05.RootTakes", spec := "rootTakes", inPlace := ["math/bits.Add64", "math/bits.Sub64"], unfollowed := true, recurses := true, apart := false, narrowed := true }
def RootTakesUptoSaid : Prop := rootTakesUptoRow.holds Try.pinned (OpenSpec.upto rootTakesSpec)

/-- 'chicorylaw05.RootRatios', WHERE WHAT IT READS IS OF BULK AT MOST 1048576: true; the input reads as it did. -/
def rootRatiosUptoRow : OpenClaim := { program := "ytohjkkmgcibemaa", sum := "bb9d46c40ffc8102ad0fafed1b978f995d8d72c0d364e73ea42832f1829f7987", func := "chicory/chicorylaw05.RootRatios", spec := "rootRatios", inPlace := ["math/bits.Add64", "math/bits.Sub64"], unfollowed := true, recurses := true, apart := false, narrowed := true }
def RootRatiosUptoSaid : Prop := rootRatiosUptoRow.holds Try.pinned (OpenSpec.upto rootRatiosSpec)

/-- 'chicorylaw05.RootScales', WHERE WHAT IT READS IS OF BULK AT MOST 1048576: true; the input reads as it did. -/
def rootScalesUptoRow : OpenClaim := { program := "ytohjkkmgcibemaa", sum := "bb9d46c40ffc8102ad0fafed1b978f995d8d72c0d364e73ea42832f1829f7987", func := "chicory/chicorylaw05.RootScales", spec := "rootScales", inPlace := ["math/bits.Add64", "math/bits.Sub64"], unfollowed := true, recurses := true, apart := false, narrowed := true }
def RootScalesUptoSaid : Prop := rootScalesUptoRow.holds Try.pinned (OpenSpec.upto rootScalesSpec)

/-- 'chicorylaw05.RootInverts', WHERE WHAT IT READS IS OF BULK AT MOST 1048576: true; the input reads as it did. -/
def rootInvertsUptoRow : OpenClaim := { program := "ytohjkkmgcibemaa", sum := "bb9d46c40ffc8102ad0fafed1b978f995d8d72c0d364e73ea42832f1829f7987", func := "chicory/chicorylaw05.RootInverts", spec := "rootInverts", inPlace := ["math/bits.Add64", "math/bits.Sub64"], unfollowed := true, recurses := true, apart := false, narrowed := true }
def RootInvertsUptoSaid : Prop := rootInvertsUptoRow.holds Try.pinned (OpenSpec.upto rootInvertsSpec)

/-- 'chicorylaw05.RootWhole', WHERE WHAT IT READS IS OF BULK AT MOST 1048576: true; the input reads as it did. -/
def rootWholeUptoRow : OpenClaim := { program := "ytohjkkmgcibemaa", sum := "bb9d46c40ffc8102ad0fafed1b978f995d8d72c0d364e73ea42832f1829f7987", func := "chicory/chicorylaw05.RootWhole", spec := "rootWhole", inPlace := ["math/bits.Add64", "math/bits.Sub64"], unfollowed := true, recurses := true, apart := false, narrowed := true }
def RootWholeUptoSaid : Prop := rootWholeUptoRow.holds Try.pinned (OpenSpec.upto rootWholeSpec)

/-- 'chicorylaw05.RootProves', WHERE WHAT IT READS IS OF BULK AT MOST 1048576: true; the input reads as it did. -/
def rootProvesUptoRow : OpenClaim := { program := "ytohjkkmgcibemaa", sum := "bb9d46c40ffc8102ad0fafed1b978f995d8d72c0d364e73ea42832f1829f7987", func := "chicory/chicorylaw05.RootProves", spec := "rootProves", inPlace := ["math/bits.Add64", "math/bits.Sub64"], unfollowed := true, recurses := true, apart := false, narrowed := true }
def RootProvesUptoSaid : Prop := rootProvesUptoRow.holds Try.pinned (OpenSpec.upto rootProvesSpec)

/-- 'chicorylaw05.RootPowers', WHERE WHAT IT READS IS OF BULK AT MOST 1048576: true; the input reads as it did. -/
def rootPowersUptoRow : OpenClaim := { program := "ytohjkkmgcibemaa", sum := "bb9d46c40ffc8102ad0fafed1b978f995d8d72c0d364e73ea42832f1829f7987", func := "chicory/chicorylaw05.RootPowers", spec := "rootPowers", inPlace := ["math/bits.Add64", "math/bits.Sub64"], unfollowed := true, recurses := true, apart := false, narrowed := true }
def RootPowersUptoSaid : Prop := rootPowersUptoRow.holds Try.pinned (OpenSpec.upto rootPowersSpec)

/-- 'chicorylaw05.RootSums', WHERE WHAT IT READS IS OF BULK AT MOST 1048576: true; the input reads as it did. -/
def rootSumsUptoRow : OpenClaim := { program := "ytohjkkmgcibemaa", sum := "bb9d46c40ffc8102ad0fafed1b978f995d8d72c0d364e73ea42832f1829f7987", func := "chicory/chicorylaw05.RootSums", spec := "rootSums", inPlace := ["math/bits.Add64", "math/bits.Sub64"], unfollowed := true, recurses := true, apart := false, narrowed := true }
def RootSumsUptoSaid : Prop := rootSumsUptoRow.holds Try.pinned (OpenSpec.upto rootSumsSpec)

end Rows
end Go.Proofs.Ytohjkkmgcibemaa
