/- A number's words as an argument of a law. -/
import Derived.Test.YtohjkkmgcibemaaOpb
import Derived.Test.YtohjkkmgcibemaaNwp
set_option linter.unusedSimpArgs false
set_option linter.unusedVariables false
namespace Go.Proofs.Ytohjkkmgcibemaa
open Go.ChangeShapes Go.WideShapes Go.ChangeAt Go.RowKit
def Wv (w : World) (v : Value) (l : List Int) : Prop :=
 ∃ (a : Option Addr) (cap : Nat), v = .slice a l.length cap ∧ l.length ≤ cap ∧ (0 < l.length → ∃ g off, a = some ⟨g, off, none⟩ ∧ ∀ j, j < l.length → w.cell? ⟨g, off + j, none⟩ = some (.int .u64 (l.getD j 0)))
theorem cells_u64 : Try.prog.cellsOf 24 = 1 := by kernel_rfl
set_option maxRecDepth 10000 in
theorem open_wordS {H : Type} {enc : TypeId × Value → H} {w : World} {base b0 : Nat} {spare : Nat → Bool} {held : Bool} {v : Value} {d : DataW H} {p : List MemPlace}
 (hok : Value.okWide Try.prog w .any b0 57 v) (h : DataW.Trod enc Try.prog w base spare held 57 v d p) : ∃ l : List Int, Wv w v l ∧ W64 l := by
 obtain ⟨a0, len, cap, rfl⟩ := Go.WideShapes.okWide_slice Try.underlying57 hok
 obtain ⟨fuel, hf⟩ := h
 rcases Go.ChangeShapes.open_ints Try.underlying57 Try.underlying24 cells_u64 hf with ⟨hcs, _⟩ | ⟨a, len', cap', zs, hcs, _, hle, _, hall, _, hc, hwf⟩
 ·simp [Value.cells] at hcs
  obtain ⟨rfl, rfl, rfl⟩ := hcs
  exact ⟨[], ⟨none, 0, rfl, Nat.le_refl _, fun h => by simp at h⟩, fun x hx => by cases hx⟩
 ·simp [Value.cells] at hcs
  obtain ⟨rfl, rfl, rfl⟩ := hcs
  have hlz : len ≤ zs.length := by rw [hall]; split <;> omega
  refine ⟨zs.take len, ⟨some a, cap, by rw [List.length_take, Nat.min_eq_left hlz], by rw [List.length_take, Nat.min_eq_left hlz]; exact hle, fun hp => ?_⟩, fun x hx => ?_⟩
  ·have hp' : 0 < zs.length := by rw [List.length_take] at hp; omega
   obtain ⟨g, off, rfl, hg⟩ := Go.ints_at hc hp'
   refine ⟨g, off, rfl, fun j hj => ?_⟩
   rw [List.length_take] at hj
   rw [hg j (by omega)]
   congr 2
   simp only [List.getD, List.getElem?_take]
   rw [if_pos (by omega)]
  ·have := bounds_u64 (hwf x (List.mem_of_mem_take hx))
   omega
theorem wv_val {w : World} {v : Value} {b : List Int} (h : Wv w v b) : valR0 ⟨w, fun _ => False⟩ (.isl .u64 b) v := by
 obtain ⟨a, cap, rfl, hc, hr⟩ := h
 refine valR0.mk1 rfl ⟨_, rfl, a, cap, rfl, hc, by simp, fun hp => ?_⟩
 have hp' : 0 < b.length := by simpa using hp
 obtain ⟨g, off, rfl, hg⟩ := hr hp'
 refine ⟨g, off, rfl, World.block_lt_of_cell? w ⟨g, off + 0, none⟩ (hg 0 hp'), fun h => h, fun j hj => ?_⟩
 have hj' : j < b.length := by simpa using hj
 rw [hg j hj']
 simp [List.getD, hj']
theorem wv_one {w : World} {v : Value} {b : List Int} (h : Wv w v b) : v.oneCell' = true := by
 obtain ⟨a, cap, rfl, _⟩ := h
 rfl
end Go.Proofs.Ytohjkkmgcibemaa
