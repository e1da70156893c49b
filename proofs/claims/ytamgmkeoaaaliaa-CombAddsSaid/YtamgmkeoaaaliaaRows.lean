/-
  No cell of these rows narrows 'for every input' (looked for: loops, veiled, ifaces, maps, wideKeys, modest, calm, conditions, laid).
  DERIVED. THE GIVEN ROWS OF THIS SEAT. 6 by the template 'for every input the law returns true; each argument reads behind the call as it read before'; 0 by the template 'total and deterministic' (their statements: YtamgmkeoaaaliaaTotals.lean).
  GIVEN WITH THE SEED: the statements are not yours to turn. If you find one false, say at which input.
  Laid BY PROGRAM, IN A SANDBOX (cutbox-rows.mjs): the forced cells as the released guide's own fill.sh prints them over the translation 99d93349bf2be0e7… (all of the seat's roots in one cut). By AI agents, Wed Nov 11 2026. No macro, syntax, notation, axiom, sorry.
-/
import Derived.Test.YtamgmkeoaaaliaaChecked
import GoSem.Claim
import GoSem.ClaimJoined
import GoSem.ClaimMapViews
import Derived.JoinedTies
import Derived.KernelRfl
namespace Go.Proofs.Ytamgmkeoaaaliaa
/- THE CELL 'sum', in the pinned program and in every row, IS THE sha256 OF THE DUMP (.gsa) THAT YtamgmkeoaaaliaaProg.lean LOADS. Nothing in Lean hashes anything: it is a label: what it is worth is what the hold of that sum in a sandbox is worth. -/
noncomputable def Try.pinned : Pinned := { name := "ytamgmkeoaaaliaa", sum := "99d93349bf2be0e7ee738d01d35fd7d162ccc4286e5e28295a96b1d603d7ae71", checked := Try.checked }
namespace Rows
def none {H : Type} : Left H := { results := [], args := [] }

/-- 'chicorylaw11.CombSame': WHATEVER THE INPUT: true; the input reads as it did. -/
def combSameSpec : ChangeSpec := { name := "combSame", fn := fun _ => fun
  | [d1, d2] => { results := [.lit (.bool true)], args := [d1, d2] }
  | _ => none }
def combSameRow : OpenClaim := { program := "ytamgmkeoaaaliaa", sum := "99d93349bf2be0e7ee738d01d35fd7d162ccc4286e5e28295a96b1d603d7ae71", func := "chicory/chicorylaw11.CombSame", spec := "combSame", inPlace := ["math/bits.Add64", "math/bits.Sub64"], unfollowed := true, recurses := true, apart := false }
def CombSameSaid : Prop := combSameRow.holds Try.pinned (OpenSpec.ofChange combSameSpec)

/-- ITS FALSE NEIGHBOUR: 'it returns false'. Refute it at one input. -/
def combSameWrong : ChangeSpec := { name := "combSame", fn := fun _ => fun
  | [d1, d2] => { results := [.lit (.bool false)], args := [d1, d2] }
  | _ => none }
def CombSameWrongFalsely : Prop := combSameRow.holds Try.pinned (OpenSpec.ofChange combSameWrong)

/-- 'chicorylaw11.CombNil': WHATEVER THE INPUT: true; the input reads as it did. -/
def combNilSpec : ChangeSpec := { name := "combNil", fn := fun _ => fun
  | [d1, d2] => { results := [.lit (.bool true)], args := [d1, d2] }
  | _ => none }
def combNilRow : OpenClaim := { program := "ytamgmkeoaaaliaa", sum := "99d93349bf2be0e7ee738d01d35fd7d162ccc4286e5e28295a96b1d603d7ae71", func := "chicory/chicorylaw11.CombNil", spec := "combNil", inPlace := ["math/bits.Add64", "math/bits.Sub64"], unfollowed := true, recurses := true, apart := false }
def CombNilSaid : Prop := combNilRow.holds Try.pinned (OpenSpec.ofChange combNilSpec)

/-- ITS FALSE NEIGHBOUR: 'it returns false'. Refute it at one input. -/
def combNilWrong : ChangeSpec := { name := "combNil", fn := fun _ => fun
  | [d1, d2] => { results := [.lit (.bool false)], args := [d1, d2] }
  | _ => none }
def CombNilWrongFalsely : Prop := combNilRow.holds Try.pinned (OpenSpec.ofChange combNilWrong)

/-- 'chicorylaw11.CombLooks': WHATEVER THE INPUT: true; the input reads as it did. -/
def combLooksSpec : ChangeSpec := { name := "combLooks", fn := fun _ => fun
  | [d1, d2] => { results := [.lit (.bool true)], args := [d1, d2] }
  | _ => none }
def combLooksRow : OpenClaim := { program := "ytamgmkeoaaaliaa", sum := "99d93349bf2be0e7ee738d01d35fd7d162ccc4286e5e28295a96b1d603d7ae71", func := "chicory/chicorylaw11.CombLooks", spec := "combLooks", inPlace := ["math/bits.Add64", "math/bits.Sub64"], unfollowed := true, recurses := true, apart := false }
def CombLooksSaid : Prop := combLooksRow.holds Try.pinned (OpenSpec.ofChange combLooksSpec)

/-- ITS FALSE NEIGHBOUR: 'it returns false'. Refute it at one input. -/
def combLooksWrong : ChangeSpec := { name := "combLooks", fn := fun _ => fun
  | [d1, d2] => { results := [.lit (.bool false)], args := [d1, d2] }
  | _ => none }
def CombLooksWrongFalsely : Prop := combLooksRow.holds Try.pinned (OpenSpec.ofChange combLooksWrong)

/-- 'chicorylaw11.CombPowers': WHATEVER THE INPUT: true; the input reads as it did. -/
def combPowersSpec : ChangeSpec := { name := "combPowers", fn := fun _ => fun
  | [d1, d2, d3] => { results := [.lit (.bool true)], args := [d1, d2, d3] }
  | _ => none }
def combPowersRow : OpenClaim := { program := "ytamgmkeoaaaliaa", sum := "99d93349bf2be0e7ee738d01d35fd7d162ccc4286e5e28295a96b1d603d7ae71", func := "chicory/chicorylaw11.CombPowers", spec := "combPowers", inPlace := ["math/bits.Sub64", "math/bits.Add64"], unfollowed := true, recurses := true, apart := false }
def CombPowersSaid : Prop := combPowersRow.holds Try.pinned (OpenSpec.ofChange combPowersSpec)

/-- ITS FALSE NEIGHBOUR: 'it returns false'. Refute it at one input. -/
def combPowersWrong : ChangeSpec := { name := "combPowers", fn := fun _ => fun
  | [d1, d2, d3] => { results := [.lit (.bool false)], args := [d1, d2, d3] }
  | _ => none }
def CombPowersWrongFalsely : Prop := combPowersRow.holds Try.pinned (OpenSpec.ofChange combPowersWrong)

/-- 'chicorylaw11.CombTables': WHATEVER THE INPUT: true; the input reads as it did. -/
def combTablesSpec : ChangeSpec := { name := "combTables", fn := fun _ => fun
  | [d1, d2, d3] => { results := [.lit (.bool true)], args := [d1, d2, d3] }
  | _ => none }
def combTablesRow : OpenClaim := { program := "ytamgmkeoaaaliaa", sum := "99d93349bf2be0e7ee738d01d35fd7d162ccc4286e5e28295a96b1d603d7ae71", func := "chicory/chicorylaw11.CombTables", spec := "combTables", inPlace := ["math/bits.Sub64", "math/bits.Add64"], unfollowed := true, recurses := true, apart := false }
def CombTablesSaid : Prop := combTablesRow.holds Try.pinned (OpenSpec.ofChange combTablesSpec)

/-- ITS FALSE NEIGHBOUR: 'it returns false'. Refute it at one input. -/
def combTablesWrong : ChangeSpec := { name := "combTables", fn := fun _ => fun
  | [d1, d2, d3] => { results := [.lit (.bool false)], args := [d1, d2, d3] }
  | _ => none }
def CombTablesWrongFalsely : Prop := combTablesRow.holds Try.pinned (OpenSpec.ofChange combTablesWrong)

/-- 'chicorylaw11.CombAdds': WHATEVER THE INPUT: true; the input reads as it did. -/
def combAddsSpec : ChangeSpec := { name := "combAdds", fn := fun _ => fun
  | [d1, d2, d3] => { results := [.lit (.bool true)], args := [d1, d2, d3] }
  | _ => none }
def combAddsRow : OpenClaim := { program := "ytamgmkeoaaaliaa", sum := "99d93349bf2be0e7ee738d01d35fd7d162ccc4286e5e28295a96b1d603d7ae71", func := "chicory/chicorylaw11.CombAdds", spec := "combAdds", inPlace := ["math/bits.Sub64", "math/bits.Add64"], unfollowed := true, recurses := true, apart := false }
def CombAddsSaid : Prop := combAddsRow.holds Try.pinned (OpenSpec.ofChange combAddsSpec)

/-- ITS FALSE NEIGHBOUR: 'it returns false'. Refute it at one input. -/
def combAddsWrong : ChangeSpec := { name := "combAdds", fn := fun _ => fun
  | [d1, d2, d3] => { results := [.lit (.bool false)], args := [d1, d2, d3] }
  | _ => none }
def CombAddsWrongFalsely : Prop := combAddsRow.holds Try.pinned (OpenSpec.ofChange combAddsWrong)

/- THE SECOND FORM. 'bulk': how many values and letters a reading holds, each counted each time it is reached (what is shared counts as often as it is met; a slice's spare places count too). A statement '..UptoSaid' is the law's where the arguments, and the package variables that the reading takes, are together of bulk at most 1048576: NARROWER than '..Said'. Prove '..Said' where nothing that the law and all that it calls make is longer than what came in: it says more and counts as full. Else prove '..UptoSaid'. A law counts once. -/
mutual
def uptoBulk {H : Type} : DataW H → Nat
  | .lit (.string bytes) => bytes.length + 1
  | .lit _ => 1
  | .nil => 1
  | .ptr d => uptoBulk d + 1
  | .slice elems spare => uptoBulkAll elems + uptoBulkAll spare + 1
  | .agg parts => uptoBulkAll parts + 1
  | .iface _ d => uptoBulk d + 1
  | .map entries => uptoBulkEntries entries + 1
  | .held _ => 1
def uptoBulkAll {H : Type} : List (DataW H) → Nat
  | [] => 0
  | d :: r => uptoBulk d + uptoBulkAll r
def uptoBulkEntries {H : Type} : List (Lit × DataW H) → Nat
  | [] => 0
  | x :: r => uptoBulkEntry x + uptoBulkEntries r
def uptoBulkEntry {H : Type} : Lit × DataW H → Nat
  | (.string bytes, d) => bytes.length + uptoBulk d + 1
  | (_, d) => uptoBulk d + 1
 end
def uptoSmall : (H : Type) → List (DataW H) → Bool := fun _ ds => decide (uptoBulkAll ds ≤ 1048576)
def OpenSpec.upto (s : _root_.Go.ChangeSpec) : _root_.Go.OpenSpec := { _root_.Go.OpenSpec.ofChange s with cond := some uptoSmall }

/-- 'chicorylaw11.CombSame', WHERE WHAT IT READS IS OF BULK AT MOST 1048576: true; the input reads as it did. -/
def combSameUptoRow : OpenClaim := { program := "ytamgmkeoaaaliaa", sum := "99d93349bf2be0e7ee738d01d35fd7d162ccc4286e5e28295a96b1d603d7ae71", func := "chicory/chicorylaw11.CombSame", spec := "combSame", inPlace := ["math/bits.Add64", "math/bits.Sub64"], unfollowed := true, recurses := true, apart := false, narrowed := true }
def CombSameUptoSaid : Prop := combSameUptoRow.holds Try.pinned (OpenSpec.upto combSameSpec)

/-- 'chicorylaw11.CombNil', WHERE WHAT IT READS IS OF BULK AT MOST 1048576: true; the input reads as it did. -/
def combNilUptoRow : OpenClaim := { program := "ytamgmkeoaaaliaa", sum := "99d93349bf2be0e7ee738d01d35fd7d162ccc4286e5e28295a96b1d603d7ae71", func := "chicory/chicorylaw11.CombNil", spec := "combNil", inPlace := ["math/bits.Add64", "math/bits.Sub64"], unfollowed := true, recurses := true, apart := false, narrowed := true }
def CombNilUptoSaid : Prop := combNilUptoRow.holds Try.pinned (OpenSpec.upto combNilSpec)

/-- 'chicorylaw11.CombLooks', WHERE WHAT IT READS IS OF BULK AT MOST 1048576: true; the input reads as it did. -/
def combLooksUptoRow : OpenClaim := { program := "ytamgmkeoaaaliaa", sum := "99d93349bf2be0e7ee738d01d35fd7d162ccc4286e5e28295a96b1d603d7ae71", func := "chicory/chicorylaw11.CombLooks", spec := "combLooks", inPlace := ["math/bits.Add64", "math/bits.Sub64"], unfollowed := true, recurses := true, apart := false, narrowed := true }
def CombLooksUptoSaid : Prop := combLooksUptoRow.holds Try.pinned (OpenSpec.upto combLooksSpec)

/-- 'chicorylaw11.CombPowers', WHERE WHAT IT READS IS OF BULK AT MOST 1048576: true; the input reads as it did. -/
def combPowersUptoRow : OpenClaim := { program := "ytamgmkeoaaaliaa", sum := "99d93349bf2be0e7ee738d01d35fd7d162ccc4286e5e28295a96b1d603d7ae71", func := "chicory/chicorylaw11.CombPowers", spec := "combPowers", inPlace := ["math/bits.Sub64", "math/bits.Add64"], unfollowed := true, recurses := true, apart := false, narrowed := true }
def CombPowersUptoSaid : Prop := combPowersUptoRow.holds Try.pinned (OpenSpec.upto combPowersSpec)

/-- 'chicorylaw11.CombTables', WHERE WHAT IT READS IS OF BULK AT MOST 1048576: true; the input reads as it did. -/
def combTablesUptoRow : OpenClaim := { program := "ytamgmkeoaaaliaa", sum := "99d93349bf2be0e7ee738d01d35fd7d162ccc4286e5e28295a96b1d603d7ae71", func := "chicory/chicorylaw11.CombTables", spec := "combTables", inPlace := ["math/bits.Sub64", "math/bits.Add64"], unfollowed := true, recurses := true, apart := false, narrowed := true }
def CombTablesUptoSaid : Prop := combTablesUptoRow.holds Try.pinned (OpenSpec.upto combTablesSpec)

/-- 'chicorylaw11.CombAdds', WHERE WHAT IT READS IS OF BULK AT MOST 1048576: true; the input reads as it did. -/
def combAddsUptoRow : OpenClaim := { program := "ytamgmkeoaaaliaa", sum := "99d93349bf2be0e7ee738d01d35fd7d162ccc4286e5e28295a96b1d603d7ae71", func := "chicory/chicorylaw11.CombAdds", spec := "combAdds", inPlace := ["math/bits.Sub64", "math/bits.Add64"], unfollowed := true, recurses := true, apart := false, narrowed := true }
def CombAddsUptoSaid : Prop := combAddsUptoRow.holds Try.pinned (OpenSpec.upto combAddsSpec)

end Rows
end Go.Proofs.Ytamgmkeoaaaliaa
