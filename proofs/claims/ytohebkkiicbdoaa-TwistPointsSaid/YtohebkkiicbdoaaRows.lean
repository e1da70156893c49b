/-
  No cell of these rows narrows 'for every input' (looked for: loops, veiled, ifaces, maps, wideKeys, modest, calm, conditions, laid).
  DERIVED. THE GIVEN ROWS OF THIS SEAT. 4 by the template 'for every input the law returns true; each argument reads behind the call as it read before'; 0 by the template 'total and deterministic' (their statements: YtohebkkiicbdoaaTotals.lean).
  GIVEN WITH THE SEED: the statements are not yours to turn. If you find one false, say at which input.
  Laid BY PROGRAM, IN A SANDBOX (cutbox-rows.mjs): the forced cells as the released guide's own fill.sh prints them over the translation 726acc4599b3bd1b… (all of the seat's roots in one cut). By AI agents, Wed Nov 11 2026. No macro, syntax, notation, axiom, sorry.
-/
import Derived.Test.YtohebkkiicbdoaaChecked
import GoSem.Claim
import GoSem.ClaimJoined
import GoSem.ClaimMapViews
import Derived.JoinedTies
import Derived.KernelRfl
namespace Go.Proofs.Ytohebkkiicbdoaa
/- THE CELL 'sum', in the pinned program and in every row, IS THE sha256 OF THE DUMP (.gsa) THAT YtohebkkiicbdoaaProg.lean LOADS. Nothing in Lean hashes anything: it is a label: what it is worth is what the hold of that sum in a sandbox is worth. -/
noncomputable def Try.pinned : Pinned := { name := "ytohebkkiicbdoaa", sum := "726acc4599b3bd1b2a83c71318d9eee1b6403b35c609d4a2aedae6befc6c3605", checked := Try.checked }
namespace Rows
def none {H : Type} : Left H := { results := [], args := [] }

/-- 'chicorylaw13.TwistPoints': WHATEVER THE INPUT: true; the input reads as it did. -/
def twistPointsSpec : ChangeSpec := { name := "twistPoints", fn := fun _ => fun
  | [d1, d2, d3] => { results := [.lit (.bool true)], args := [d1, d2, d3] }
  | _ => none }
def twistPointsRow : OpenClaim := { program := "ytohebkkiicbdoaa", sum := "726acc4599b3bd1b2a83c71318d9eee1b6403b35c609d4a2aedae6befc6c3605", func := "chicory/chicorylaw13.TwistPoints", spec := "twistPoints", inPlace := ["math/bits.Add64", "math/bits.Sub64"], unfollowed := true, recurses := true, apart := false }
def TwistPointsSaid : Prop := twistPointsRow.holds Try.pinned (OpenSpec.ofChange twistPointsSpec)

/-- ITS FALSE NEIGHBOUR: 'it returns false'. Refute it at one input. -/
def twistPointsWrong : ChangeSpec := { name := "twistPoints", fn := fun _ => fun
  | [d1, d2, d3] => { results := [.lit (.bool false)], args := [d1, d2, d3] }
  | _ => none }
def TwistPointsWrongFalsely : Prop := twistPointsRow.holds Try.pinned (OpenSpec.ofChange twistPointsWrong)

/-- 'chicorylaw13.TwistAdds': WHATEVER THE INPUT: true; the input reads as it did. -/
def twistAddsSpec : ChangeSpec := { name := "twistAdds", fn := fun _ => fun
  | [d] => { results := [.lit (.bool true)], args := [d] }
  | _ => none }
def twistAddsRow : OpenClaim := { program := "ytohebkkiicbdoaa", sum := "726acc4599b3bd1b2a83c71318d9eee1b6403b35c609d4a2aedae6befc6c3605", func := "chicory/chicorylaw13.TwistAdds", spec := "twistAdds", inPlace := ["math/bits.Sub64", "math/bits.Add64"], unfollowed := true, recurses := true, apart := false }
def TwistAddsSaid : Prop := twistAddsRow.holds Try.pinned (OpenSpec.ofChange twistAddsSpec)

/-- ITS FALSE NEIGHBOUR: 'it returns false'. Refute it at one input. -/
def twistAddsWrong : ChangeSpec := { name := "twistAdds", fn := fun _ => fun
  | [d] => { results := [.lit (.bool false)], args := [d] }
  | _ => none }
def TwistAddsWrongFalsely : Prop := twistAddsRow.holds Try.pinned (OpenSpec.ofChange twistAddsWrong)

/-- 'chicorylaw13.TwistHomes': WHATEVER THE INPUT: true; the input reads as it did. -/
def twistHomesSpec : ChangeSpec := { name := "twistHomes", fn := fun _ => fun
  | [d1, d2] => { results := [.lit (.bool true)], args := [d1, d2] }
  | _ => none }
def twistHomesRow : OpenClaim := { program := "ytohebkkiicbdoaa", sum := "726acc4599b3bd1b2a83c71318d9eee1b6403b35c609d4a2aedae6befc6c3605", func := "chicory/chicorylaw13.TwistHomes", spec := "twistHomes", inPlace := ["math/bits.Sub64", "math/bits.Add64"], unfollowed := true, recurses := true, apart := false }
def TwistHomesSaid : Prop := twistHomesRow.holds Try.pinned (OpenSpec.ofChange twistHomesSpec)

/-- ITS FALSE NEIGHBOUR: 'it returns false'. Refute it at one input. -/
def twistHomesWrong : ChangeSpec := { name := "twistHomes", fn := fun _ => fun
  | [d1, d2] => { results := [.lit (.bool false)], args := [d1, d2] }
  | _ => none }
def TwistHomesWrongFalsely : Prop := twistHomesRow.holds Try.pinned (OpenSpec.ofChange twistHomesWrong)

/-- 'chicorylaw13.TwistFours': WHATEVER THE INPUT: true; the input reads as it did. -/
def twistFoursSpec : ChangeSpec := { name := "twistFours", fn := fun _ => fun
  | [d] => { results := [.lit (.bool true)], args := [d] }
  | _ => none }
def twistFoursRow : OpenClaim := { program := "ytohebkkiicbdoaa", sum := "726acc4599b3bd1b2a83c71318d9eee1b6403b35c609d4a2aedae6befc6c3605", func := "chicory/chicorylaw13.TwistFours", spec := "twistFours", inPlace := ["math/bits.Sub64", "math/bits.Add64"], unfollowed := true, recurses := true, apart := false }
def TwistFoursSaid : Prop := twistFoursRow.holds Try.pinned (OpenSpec.ofChange twistFoursSpec)

/-- ITS FALSE NEIGHBOUR: 'it returns false'. Refute it at one input. -/
def twistFoursWrong : ChangeSpec := { name := "twistFours", fn := fun _ => fun
  | [d] => { results := [.lit (.bool false)], args := [d] }
  | _ => none }
def TwistFoursWrongFalsely : Prop := twistFoursRow.holds Try.pinned (OpenSpec.ofChange twistFoursWrong)

/- THE SECOND FORM. 'bulk': how many values and letters a reading holds, each counted each time it is reached (what is shared counts as often as it is met; a slice's spare places count too). A statement '..UptoSaid' is the law's where the arguments, and the package variables that the reading takes, are together of bulk at most 1048576: NARROWER than '..Said'. Prove '..Said' where nothing that the law and all that it calls make is longer than what came in: it says more and counts as full. Else prove '..UptoSaid'. A law counts once. -/
mutual
def uptoBulk {H : Type} : DataW H → Nat
  | .lit (.string bytes) => bytes.length + 1
  | .lit _ => 1
  | .nil => 1
  | .ptr d => uptoBulk d + 1
  | .slice elems spare => uptoBulkAll elems + uptoBulkAll spare + 1
  | .agg parts => uptoBulkAll parts + 1
  | .iface _ d => uptoBulk d + 1
  | .map entries => uptoBulkEntries entries + 1
  | .held _ => 1
def uptoBulkAll {H : Type} : List (DataW H) → Nat
  | [] => 0
  | d :: r => uptoBulk d + uptoBulkAll r
def uptoBulkEntries {H : Type} : List (Lit × DataW H) → Nat
  | [] => 0
  | x :: r => uptoBulkEntry x + uptoBulkEntries r
def uptoBulkEntry {H : Type} : Lit × DataW H → Nat
  | (.string bytes, d) => bytes.length + uptoBulk d + 1
  | (_, d) => uptoBulk d + 1
 end
def uptoSmall : (H : Type) → List (DataW H) → Bool := fun _ ds => decide (uptoBulkAll ds ≤ 1048576)
def OpenSpec.upto (s : _root_.Go.ChangeSpec) : _root_.Go.OpenSpec := { _root_.Go.OpenSpec.ofChange s with cond := some uptoSmall }

/-- 'chicorylaw13.TwistPoints', WHERE WHAT IT READS IS OF BULK AT MOST 1048576: true; the input reads as it did. -/
def twistPointsUptoRow : OpenClaim := { program := "ytohebkkiicbdoaa", sum := "726acc4599b3bd1b2a83c71318d9eee1b6403b35c609d4a2aedae6befc6c3605", func := "chicory/chicorylaw13.TwistPoints", spec := "twistPoints", inPlace := ["math/bits.Add64", "math/bits.Sub64"], unfollowed := true, recurses := true, apart := false, narrowed := true }
def TwistPointsUptoSaid : Prop := twistPointsUptoRow.holds Try.pinned (OpenSpec.upto twistPointsSpec)

/-- 'chicorylaw13.TwistAdds', WHERE WHAT IT READS IS OF BULK AT MOST 1048576: true; the input reads as it did. -/
def twistAddsUptoRow : OpenClaim := { program := "ytohebkkiicbdoaa", sum := "726acc4599b3bd1b2a83c71318d9eee1b6403b35c609d4a2aedae6befc6c3605", func := "chicory/chicorylaw13.TwistAdds", spec := "twistAdds", inPlace := ["math/bits.Sub64", "math/bits.Add64"], unfollowed := true, recurses := true, apart := false, narrowed := true }
def TwistAddsUptoSaid : Prop := twistAddsUptoRow.holds Try.pinned (OpenSpec.upto twistAddsSpec)

/-- 'chicorylaw13.TwistHomes', WHERE WHAT IT READS IS OF BULK AT MOST 1048576: true; the input reads as it did. -/
def twistHomesUptoRow : OpenClaim := { program := "ytohebkkiicbdoaa", sum := "726acc4599b3bd1b2a83c71318d9eee1b6403b35c609d4a2aedae6befc6c3605", func := "chicory/chicorylaw13.TwistHomes", spec := "twistHomes", inPlace := ["math/bits.Sub64", "math/bits.Add64"], unfollowed := true, recurses := true, apart := false, narrowed := true }
def TwistHomesUptoSaid : Prop := twistHomesUptoRow.holds Try.pinned (OpenSpec.upto twistHomesSpec)

/-- 'chicorylaw13.TwistFours', WHERE WHAT IT READS IS OF BULK AT MOST 1048576: true; the input reads as it did. -/
def twistFoursUptoRow : OpenClaim := { program := "ytohebkkiicbdoaa", sum := "726acc4599b3bd1b2a83c71318d9eee1b6403b35c609d4a2aedae6befc6c3605", func := "chicory/chicorylaw13.TwistFours", spec := "twistFours", inPlace := ["math/bits.Sub64", "math/bits.Add64"], unfollowed := true, recurses := true, apart := false, narrowed := true }
def TwistFoursUptoSaid : Prop := twistFoursUptoRow.holds Try.pinned (OpenSpec.upto twistFoursSpec)

end Rows
end Go.Proofs.Ytohebkkiicbdoaa
