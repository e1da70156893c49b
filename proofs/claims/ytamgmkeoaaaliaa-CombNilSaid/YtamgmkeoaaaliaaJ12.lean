/- joined: Opn -/
import Derived.Test.YtamgmkeoaaaliaaJ11
import Derived.WalkKit
import Derived.ProofKit
import Derived.OpenShut
import Derived.ChangeOld
import Derived.Below
import Derived.ChangeSlices
set_option linter.unusedSimpArgs false
set_option linter.unusedVariables false
/- An array of bytes as an argument. -/
namespace Go.Proofs.Ytamgmkeoaaaliaa
open Go.ChangeShapes Go.WideShapes Go.ChangeAt Go.RowKit

theorem okWide_arr {P : Program} {w : World} {r : Reach} {base : Nat} {t : TypeId} {v : Value} {n : Nat} {e : TypeId} (ht : P.underlying t = some (.array n e)) (h : Value.okWide P w r base t v) : ∃ cs : Array Value, v = .agg cs ∧ cs.size = P.cellsOf t := by
  simp only [Value.okWide, ht] at h
  obtain ⟨cs, h1, h2, _⟩ := h
  exact ⟨cs, h1, h2⟩

theorem cells_u8 : Try.prog.cellsOf 5 = 1 := by kernel_rfl

theorem one_of {α : Type} (l : List α) (i : Nat) (x : α) (h : (l.drop (i * 1)).take 1 = [x]) : l[i]? = some x := by
  rw [Nat.mul_one] at h
  have := congrArg (·[0]?) h
  simpa [List.getElem?_take, List.getElem?_drop] using this

/-- an int's range -/
theorem wf_i64 {n : Int} (h : (Lit.int IntKind.i64 n).wf = true) : -9223372036854775808 ≤ n ∧ n < 9223372036854775808 := by
  simp only [Lit.wf, Bool.and_eq_true, decide_eq_true_eq, IntKind.min, IntKind.max, IntKind.bits, IntKind.signed] at h
  simp at h
  omega
set_option maxRecDepth 10000 in
/-- a slice of bytes -/
theorem open_bytes {H : Type} {enc : TypeId × Value → H} {w : World} {base b0 : Nat} {spare : Nat → Bool} {held : Bool} {v : Value} {d : DataW H} {p : List MemPlace}
    (hok : Value.okWide Try.prog w .any b0 25 v) (h : DataW.Trod enc Try.prog w base spare held 25 v d p) : ∃ b : List Int, Sv w v b ∧ By b := by
  obtain ⟨a0, len, cap, rfl⟩ := Go.WideShapes.okWide_slice Try.underlying25 hok
  obtain ⟨fuel, hf⟩ := h
  rcases Go.ChangeShapes.open_ints Try.underlying25 Try.underlying5 cells_u8 hf with ⟨hcs, _⟩ | ⟨a, len', cap', zs, hcs, _, hle, _, hall, _, hc, hwf⟩
  · simp [Value.cells] at hcs
    obtain ⟨rfl, rfl, rfl⟩ := hcs
    exact ⟨[], ⟨none, 0, rfl, fun h => by simp at h⟩, fun x hx => by cases hx⟩
  · simp [Value.cells] at hcs
    obtain ⟨rfl, rfl, rfl⟩ := hcs
    have hlz : len ≤ zs.length := by rw [hall]; split <;> omega
    refine ⟨zs.take len, ⟨some a, cap, by rw [List.length_take, Nat.min_eq_left hlz], fun hp => ?_⟩, fun x hx => ?_⟩
    · have hp' : 0 < zs.length := by rw [List.length_take] at hp; omega
      obtain ⟨g, off, rfl, hg⟩ := Go.ints_at hc hp'
      refine ⟨g, off, rfl, fun j hj => ?_⟩
      rw [List.length_take] at hj
      rw [hg j (by omega)]
      congr 2
      simp only [List.getD, List.getElem?_take]
      rw [if_pos (by omega)]
    · have := bounds_u8 (hwf x (List.mem_of_mem_take hx))
      omega
end Go.Proofs.Ytamgmkeoaaaliaa
