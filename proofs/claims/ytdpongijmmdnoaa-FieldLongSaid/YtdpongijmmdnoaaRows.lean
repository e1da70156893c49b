/-
  No cell of these rows narrows 'for every input' (looked for: loops, veiled, ifaces, maps, wideKeys, modest, calm, conditions, laid).
  DERIVED. THE GIVEN ROWS OF THIS SEAT. 8 by the template 'for every input the law returns true; each argument reads behind the call as it read before'; 0 by the template 'total and deterministic' (their statements: YtdpongijmmdnoaaTotals.lean).
  GIVEN WITH THE SEED: the statements are not yours to turn. If you find one false, say at which input.
  Laid BY PROGRAM, IN A SANDBOX (cutbox-rows.mjs): the forced cells as the released guide's own fill.sh prints them over the translation 144ff9b56f3fa93c… (all of the seat's roots in one cut). By AI agents, Wed Nov 11 2026. No macro, syntax, notation, axiom, sorry.
-/
import Derived.Test.YtdpongijmmdnoaaChecked
import GoSem.Claim
import GoSem.ClaimJoined
import GoSem.ClaimMapViews
import Derived.JoinedTies
import Derived.KernelRfl
namespace Go.Proofs.Ytdpongijmmdnoaa
/- THE CELL 'sum', in the pinned program and in every row, IS THE sha256 OF THE DUMP (.gsa) THAT YtdpongijmmdnoaaProg.lean LOADS. Nothing in Lean hashes anything: it is a label: what it is worth is what the hold of that sum in a sandbox is worth. -/
noncomputable def Try.pinned : Pinned := { name := "ytdpongijmmdnoaa", sum := "144ff9b56f3fa93cc4ebacd21482287e6f0d5ede824cef207037c5533eb619d9", checked := Try.checked }
namespace Rows
def none {H : Type} : Left H := { results := [], args := [] }

/-- 'chicorylaw04.FieldSums': WHATEVER THE INPUT: true; the input reads as it did. -/
def fieldSumsSpec : ChangeSpec := { name := "fieldSums", fn := fun _ => fun
  | [d1, d2] => { results := [.lit (.bool true)], args := [d1, d2] }
  | _ => none }
def fieldSumsRow : OpenClaim := { program := "ytdpongijmmdnoaa", sum := "144ff9b56f3fa93cc4ebacd21482287e6f0d5ede824cef207037c5533eb619d9", func := "chicory/chicorylaw04.FieldSums", spec := "fieldSums", inPlace := ["math/bits.Sub64"], unfollowed := true, recurses := true, apart := false }
def FieldSumsSaid : Prop := fieldSumsRow.holds Try.pinned (OpenSpec.ofChange fieldSumsSpec)

/-- ITS FALSE NEIGHBOUR: 'it returns false'. Refute it at one input. -/
def fieldSumsWrong : ChangeSpec := { name := "fieldSums", fn := fun _ => fun
  | [d1, d2] => { results := [.lit (.bool false)], args := [d1, d2] }
  | _ => none }
def FieldSumsWrongFalsely : Prop := fieldSumsRow.holds Try.pinned (OpenSpec.ofChange fieldSumsWrong)

/-- 'chicorylaw04.FieldPicks': WHATEVER THE INPUT: true; the input reads as it did. -/
def fieldPicksSpec : ChangeSpec := { name := "fieldPicks", fn := fun _ => fun
  | [d1, d2, d3] => { results := [.lit (.bool true)], args := [d1, d2, d3] }
  | _ => none }
def fieldPicksRow : OpenClaim := { program := "ytdpongijmmdnoaa", sum := "144ff9b56f3fa93cc4ebacd21482287e6f0d5ede824cef207037c5533eb619d9", func := "chicory/chicorylaw04.FieldPicks", spec := "fieldPicks", inPlace := ["math/bits.Sub64"], unfollowed := true, recurses := true, apart := false }
def FieldPicksSaid : Prop := fieldPicksRow.holds Try.pinned (OpenSpec.ofChange fieldPicksSpec)

/-- ITS FALSE NEIGHBOUR: 'it returns false'. Refute it at one input. -/
def fieldPicksWrong : ChangeSpec := { name := "fieldPicks", fn := fun _ => fun
  | [d1, d2, d3] => { results := [.lit (.bool false)], args := [d1, d2, d3] }
  | _ => none }
def FieldPicksWrongFalsely : Prop := fieldPicksRow.holds Try.pinned (OpenSpec.ofChange fieldPicksWrong)

/-- 'chicorylaw04.FieldBytes': WHATEVER THE INPUT: true; the input reads as it did. -/
def fieldBytesSpec : ChangeSpec := { name := "fieldBytes", fn := fun _ => fun
  | [d] => { results := [.lit (.bool true)], args := [d] }
  | _ => none }
def fieldBytesRow : OpenClaim := { program := "ytdpongijmmdnoaa", sum := "144ff9b56f3fa93cc4ebacd21482287e6f0d5ede824cef207037c5533eb619d9", func := "chicory/chicorylaw04.FieldBytes", spec := "fieldBytes", inPlace := ["math/bits.Sub64"], unfollowed := true, recurses := true, apart := false }
def FieldBytesSaid : Prop := fieldBytesRow.holds Try.pinned (OpenSpec.ofChange fieldBytesSpec)

/-- ITS FALSE NEIGHBOUR: 'it returns false'. Refute it at one input. -/
def fieldBytesWrong : ChangeSpec := { name := "fieldBytes", fn := fun _ => fun
  | [d] => { results := [.lit (.bool false)], args := [d] }
  | _ => none }
def FieldBytesWrongFalsely : Prop := fieldBytesRow.holds Try.pinned (OpenSpec.ofChange fieldBytesWrong)

/-- 'chicorylaw04.FieldSame': WHATEVER THE INPUT: true; the input reads as it did. -/
def fieldSameSpec : ChangeSpec := { name := "fieldSame", fn := fun _ => fun
  | [d1, d2] => { results := [.lit (.bool true)], args := [d1, d2] }
  | _ => none }
def fieldSameRow : OpenClaim := { program := "ytdpongijmmdnoaa", sum := "144ff9b56f3fa93cc4ebacd21482287e6f0d5ede824cef207037c5533eb619d9", func := "chicory/chicorylaw04.FieldSame", spec := "fieldSame", inPlace := ["math/bits.Sub64"], unfollowed := true, recurses := true, apart := false }
def FieldSameSaid : Prop := fieldSameRow.holds Try.pinned (OpenSpec.ofChange fieldSameSpec)

/-- ITS FALSE NEIGHBOUR: 'it returns false'. Refute it at one input. -/
def fieldSameWrong : ChangeSpec := { name := "fieldSame", fn := fun _ => fun
  | [d1, d2] => { results := [.lit (.bool false)], args := [d1, d2] }
  | _ => none }
def FieldSameWrongFalsely : Prop := fieldSameRow.holds Try.pinned (OpenSpec.ofChange fieldSameWrong)

/-- 'chicorylaw04.FieldRing': WHATEVER THE INPUT: true; the input reads as it did. -/
def fieldRingSpec : ChangeSpec := { name := "fieldRing", fn := fun _ => fun
  | [d1, d2, d3] => { results := [.lit (.bool true)], args := [d1, d2, d3] }
  | _ => none }
def fieldRingRow : OpenClaim := { program := "ytdpongijmmdnoaa", sum := "144ff9b56f3fa93cc4ebacd21482287e6f0d5ede824cef207037c5533eb619d9", func := "chicory/chicorylaw04.FieldRing", spec := "fieldRing", inPlace := ["math/bits.Add64", "math/bits.Sub64"], unfollowed := true, recurses := true, apart := false }
def FieldRingSaid : Prop := fieldRingRow.holds Try.pinned (OpenSpec.ofChange fieldRingSpec)

/-- ITS FALSE NEIGHBOUR: 'it returns false'. Refute it at one input. -/
def fieldRingWrong : ChangeSpec := { name := "fieldRing", fn := fun _ => fun
  | [d1, d2, d3] => { results := [.lit (.bool false)], args := [d1, d2, d3] }
  | _ => none }
def FieldRingWrongFalsely : Prop := fieldRingRow.holds Try.pinned (OpenSpec.ofChange fieldRingWrong)

/-- 'chicorylaw04.FieldProducts': WHATEVER THE INPUT: true; the input reads as it did. -/
def fieldProductsSpec : ChangeSpec := { name := "fieldProducts", fn := fun _ => fun
  | [d1, d2, d3] => { results := [.lit (.bool true)], args := [d1, d2, d3] }
  | _ => none }
def fieldProductsRow : OpenClaim := { program := "ytdpongijmmdnoaa", sum := "144ff9b56f3fa93cc4ebacd21482287e6f0d5ede824cef207037c5533eb619d9", func := "chicory/chicorylaw04.FieldProducts", spec := "fieldProducts", inPlace := ["math/bits.Add64", "math/bits.Sub64"], unfollowed := true, recurses := true, apart := false }
def FieldProductsSaid : Prop := fieldProductsRow.holds Try.pinned (OpenSpec.ofChange fieldProductsSpec)

/-- ITS FALSE NEIGHBOUR: 'it returns false'. Refute it at one input. -/
def fieldProductsWrong : ChangeSpec := { name := "fieldProducts", fn := fun _ => fun
  | [d1, d2, d3] => { results := [.lit (.bool false)], args := [d1, d2, d3] }
  | _ => none }
def FieldProductsWrongFalsely : Prop := fieldProductsRow.holds Try.pinned (OpenSpec.ofChange fieldProductsWrong)

/-- 'chicorylaw04.FieldLong': WHATEVER THE INPUT: true; the input reads as it did. -/
def fieldLongSpec : ChangeSpec := { name := "fieldLong", fn := fun _ => fun
  | [d1, d2, d3] => { results := [.lit (.bool true)], args := [d1, d2, d3] }
  | _ => none }
def fieldLongRow : OpenClaim := { program := "ytdpongijmmdnoaa", sum := "144ff9b56f3fa93cc4ebacd21482287e6f0d5ede824cef207037c5533eb619d9", func := "chicory/chicorylaw04.FieldLong", spec := "fieldLong", inPlace := ["math/bits.Sub64", "math/bits.Add64"], unfollowed := true, recurses := true, apart := false }
def FieldLongSaid : Prop := fieldLongRow.holds Try.pinned (OpenSpec.ofChange fieldLongSpec)

/-- ITS FALSE NEIGHBOUR: 'it returns false'. Refute it at one input. -/
def fieldLongWrong : ChangeSpec := { name := "fieldLong", fn := fun _ => fun
  | [d1, d2, d3] => { results := [.lit (.bool false)], args := [d1, d2, d3] }
  | _ => none }
def FieldLongWrongFalsely : Prop := fieldLongRow.holds Try.pinned (OpenSpec.ofChange fieldLongWrong)

/-- 'chicorylaw04.FieldNumbers': WHATEVER THE INPUT: true; the input reads as it did. -/
def fieldNumbersSpec : ChangeSpec := { name := "fieldNumbers", fn := fun _ => fun
  | [d1, d2, d3] => { results := [.lit (.bool true)], args := [d1, d2, d3] }
  | _ => none }
def fieldNumbersRow : OpenClaim := { program := "ytdpongijmmdnoaa", sum := "144ff9b56f3fa93cc4ebacd21482287e6f0d5ede824cef207037c5533eb619d9", func := "chicory/chicorylaw04.FieldNumbers", spec := "fieldNumbers", inPlace := ["math/bits.Sub64", "math/bits.Add64"], unfollowed := true, recurses := true, apart := false }
def FieldNumbersSaid : Prop := fieldNumbersRow.holds Try.pinned (OpenSpec.ofChange fieldNumbersSpec)

/-- ITS FALSE NEIGHBOUR: 'it returns false'. Refute it at one input. -/
def fieldNumbersWrong : ChangeSpec := { name := "fieldNumbers", fn := fun _ => fun
  | [d1, d2, d3] => { results := [.lit (.bool false)], args := [d1, d2, d3] }
  | _ => none }
def FieldNumbersWrongFalsely : Prop := fieldNumbersRow.holds Try.pinned (OpenSpec.ofChange fieldNumbersWrong)

/- THE SECOND FORM. 'bulk': how many values and letters a reading holds, each counted each time it is reached (what is shared counts as often as it is met; a slice's spare places count too). A statement '..UptoSaid' is the law's where the arguments, and the package variables that the reading takes, are together of bulk at most 1048576: NARROWER than '..Said'. Prove '..Said' where nothing that the law and all that it calls make is longer than what came in: it says more and counts as full. Else prove '..UptoSaid'. A law counts once. -/
mutual
def uptoBulk {H : Type} : DataW H → Nat
  | .lit (.string bytes) => bytes.length + 1
  | .lit _ => 1
  | .nil => 1
  | .ptr d => uptoBulk d + 1
  | .slice elems spare => uptoBulkAll elems + uptoBulkAll spare + 1
  | .agg parts => uptoBulkAll parts + 1
  | .iface _ d => uptoBulk d + 1
  | .map entries => uptoBulkEntries entries + 1
  | .held _ => 1
def uptoBulkAll {H : Type} : List (DataW H) → Nat
  | [] => 0
  | d :: r => uptoBulk d + uptoBulkAll r
def uptoBulkEntries {H : Type} : List (Lit × DataW H) → Nat
  | [] => 0
  | x :: r => uptoBulkEntry x + uptoBulkEntries r
def uptoBulkEntry {H : Type} : Lit × DataW H → Nat
  | (.string bytes, d) => bytes.length + uptoBulk d + 1
  | (_, d) => uptoBulk d + 1
 end
def uptoSmall : (H : Type) → List (DataW H) → Bool := fun _ ds => decide (uptoBulkAll ds ≤ 1048576)
def OpenSpec.upto (s : _root_.Go.ChangeSpec) : _root_.Go.OpenSpec := { _root_.Go.OpenSpec.ofChange s with cond := some uptoSmall }

/-- 'chicorylaw04.FieldSums', WHERE WHAT IT READS IS OF BULK AT MOST 1048576: true; the input reads as it did. -/
def fieldSumsUptoRow : OpenClaim := { program := "ytdpongijmmdnoaa", sum := "144ff9b56f3fa93cc4ebacd21482287e6f0d5ede824cef207037c5533eb619d9", func := "chicory/chicorylaw04.FieldSums", spec := "fieldSums", inPlace := ["math/bits.Sub64"], unfollowed := true, recurses := true, apart := false, narrowed := true }
def FieldSumsUptoSaid : Prop := fieldSumsUptoRow.holds Try.pinned (OpenSpec.upto fieldSumsSpec)

/-- 'chicorylaw04.FieldPicks', WHERE WHAT IT READS IS OF BULK AT MOST 1048576: true; the input reads as it did. -/
def fieldPicksUptoRow : OpenClaim := { program := "ytdpongijmmdnoaa", sum := "144ff9b56f3fa93cc4ebacd21482287e6f0d5ede824cef207037c5533eb619d9", func := "chicory/chicorylaw04.FieldPicks", spec := "fieldPicks", inPlace := ["math/bits.Sub64"], unfollowed := true, recurses := true, apart := false, narrowed := true }
def FieldPicksUptoSaid : Prop := fieldPicksUptoRow.holds Try.pinned (OpenSpec.upto fieldPicksSpec)

/-- 'chicorylaw04.FieldBytes', WHERE WHAT IT READS IS OF BULK AT MOST 1048576: true; the input reads as it did. -/
def fieldBytesUptoRow : OpenClaim := { program := "ytdpongijmmdnoaa", sum := "144ff9b56f3fa93cc4ebacd21482287e6f0d5ede824cef207037c5533eb619d9", func := "chicory/chicorylaw04.FieldBytes", spec := "fieldBytes", inPlace := ["math/bits.Sub64"], unfollowed := true, recurses := true, apart := false, narrowed := true }
def FieldBytesUptoSaid : Prop := fieldBytesUptoRow.holds Try.pinned (OpenSpec.upto fieldBytesSpec)

/-- 'chicorylaw04.FieldSame', WHERE WHAT IT READS IS OF BULK AT MOST 1048576: true; the input reads as it did. -/
def fieldSameUptoRow : OpenClaim := { program := "ytdpongijmmdnoaa", sum := "144ff9b56f3fa93cc4ebacd21482287e6f0d5ede824cef207037c5533eb619d9", func := "chicory/chicorylaw04.FieldSame", spec := "fieldSame", inPlace := ["math/bits.Sub64"], unfollowed := true, recurses := true, apart := false, narrowed := true }
def FieldSameUptoSaid : Prop := fieldSameUptoRow.holds Try.pinned (OpenSpec.upto fieldSameSpec)

/-- 'chicorylaw04.FieldRing', WHERE WHAT IT READS IS OF BULK AT MOST 1048576: true; the input reads as it did. -/
def fieldRingUptoRow : OpenClaim := { program := "ytdpongijmmdnoaa", sum := "144ff9b56f3fa93cc4ebacd21482287e6f0d5ede824cef207037c5533eb619d9", func := "chicory/chicorylaw04.FieldRing", spec := "fieldRing", inPlace := ["math/bits.Add64", "math/bits.Sub64"], unfollowed := true, recurses := true, apart := false, narrowed := true }
def FieldRingUptoSaid : Prop := fieldRingUptoRow.holds Try.pinned (OpenSpec.upto fieldRingSpec)

/-- 'chicorylaw04.FieldProducts', WHERE WHAT IT READS IS OF BULK AT MOST 1048576: true; the input reads as it did. -/
def fieldProductsUptoRow : OpenClaim := { program := "ytdpongijmmdnoaa", sum := "144ff9b56f3fa93cc4ebacd21482287e6f0d5ede824cef207037c5533eb619d9", func := "chicory/chicorylaw04.FieldProducts", spec := "fieldProducts", inPlace := ["math/bits.Add64", "math/bits.Sub64"], unfollowed := true, recurses := true, apart := false, narrowed := true }
def FieldProductsUptoSaid : Prop := fieldProductsUptoRow.holds Try.pinned (OpenSpec.upto fieldProductsSpec)

/-- 'chicorylaw04.FieldLong', WHERE WHAT IT READS IS OF BULK AT MOST 1048576: true; the input reads as it did. -/
def fieldLongUptoRow : OpenClaim := { program := "ytdpongijmmdnoaa", sum := "144ff9b56f3fa93cc4ebacd21482287e6f0d5ede824cef207037c5533eb619d9", func := "chicory/chicorylaw04.FieldLong", spec := "fieldLong", inPlace := ["math/bits.Sub64", "math/bits.Add64"], unfollowed := true, recurses := true, apart := false, narrowed := true }
def FieldLongUptoSaid : Prop := fieldLongUptoRow.holds Try.pinned (OpenSpec.upto fieldLongSpec)

/-- 'chicorylaw04.FieldNumbers', WHERE WHAT IT READS IS OF BULK AT MOST 1048576: true; the input reads as it did. -/
def fieldNumbersUptoRow : OpenClaim := { program := "ytdpongijmmdnoaa", sum := "144ff9b56f3fa93cc4ebacd21482287e6f0d5ede824cef207037c5533eb619d9", func := "chicory/chicorylaw04.FieldNumbers", spec := "fieldNumbers", inPlace := ["math/bits.Sub64", "math/bits.Add64"], unfollowed := true, recurses := true, apart := false, narrowed := true }
def FieldNumbersUptoSaid : Prop := fieldNumbersUptoRow.holds Try.pinned (OpenSpec.upto fieldNumbersSpec)

end Rows
end Go.Proofs.Ytdpongijmmdnoaa
