/- A slice of bytes as an argument of a law. -/
import Derived.Test.YtohebkkiicbdoaaJ12
import Derived.Test.YtohebkkiicbdoaaJ11
set_option linter.unusedSimpArgs false
set_option linter.unusedVariables false
namespace Go.Proofs.Ytohebkkiicbdoaa
open Go.ChangeShapes Go.WideShapes Go.ChangeAt Go.RowKit

def Bv (w : World) (v : Value) (b : List Int) : Prop :=
 ∃ (a : Option Addr) (cap : Nat), v = .slice a b.length cap ∧ b.length ≤ cap ∧ (0 < b.length → ∃ g off, a = some ⟨g, off, none⟩ ∧ Rd w g off b)
theorem bv_val {w : World} {v : Value} {b : List Int} (h : Bv w v b) : valR0 ⟨w, fun _ => False⟩ (.isl .u8 b) v := by
 obtain ⟨a, cap, rfl, hc, hr⟩ := h
 refine valR0.mk1 rfl ⟨_, rfl, a, cap, rfl, hc, by simp, fun hp => ?_⟩
 have hp' : 0 < b.length := by simpa using hp
 obtain ⟨g, off, rfl, hg⟩ := hr hp'
 refine ⟨g, off, rfl, World.block_lt_of_cell? w ⟨g, off + 0, none⟩ (hg 0 hp'), fun h => h, fun j hj => ?_⟩
 have hj' : j < b.length := by simpa using hj
 rw [hg j hj']
 simp [List.getD, hj']
theorem bv_one {w : World} {v : Value} {b : List Int} (h : Bv w v b) : v.oneCell' = true := by
 obtain ⟨a, cap, rfl, _⟩ := h
 rfl
end Go.Proofs.Ytohebkkiicbdoaa
