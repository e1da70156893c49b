/- Spots and plans of chapter 11 as arguments. -/
import Derived.Test.YtpapfkihjhhjkaaGreatOpb
set_option linter.unusedSimpArgs false
set_option linter.unusedVariables false
namespace Go.Proofs.YtpapfkihjhhjkaaGreat
open Go.ChangeShapes Go.WideShapes Go.ChangeAt Go.RowKit
set_option maxRecDepth 10000 in
theorem open_bytesL {H : Type} {enc : TypeId × Value → H} {w : World} {base : Nat} {spare : Nat → Bool} {held : Bool} {cs : List Value} {fuel : Nat} {x : DataW H × List MemPlace}
 (hf : DataW.trod enc Tryz.prog w base spare held fuel 22 cs = some x) : ∃ v b, cs = [v] ∧ Bv w v b ∧ By b := by
 rcases Go.ChangeShapes.open_ints Tryz.underlying22 Tryz.underlying5 cells_u8 hf with ⟨hcs, _⟩ | ⟨a, len', cap', zs, hcs, _, hle, _, hall, _, hc, hwf⟩
 ·exact ⟨_, [], hcs, ⟨none, 0, rfl, Nat.le_refl _, fun h => by simp at h⟩, fun x hx => by cases hx⟩
 ·have hlz : len' ≤ zs.length := by rw [hall]; split <;> omega
  refine ⟨_, zs.take len', hcs, ⟨some a, cap', by rw [List.length_take, Nat.min_eq_left hlz], by rw [List.length_take, Nat.min_eq_left hlz]; exact hle, fun hp => ?_⟩, fun x hx => ?_⟩
  ·have hp' : 0 < zs.length := by rw [List.length_take] at hp; omega
   obtain ⟨g, off, rfl, hg⟩ := Go.ints_at hc hp'
   refine ⟨g, off, rfl, fun j hj => ?_⟩
   rw [List.length_take] at hj
   rw [hg j (by omega)]
   congr 2
   simp only [List.getD, List.getElem?_take]
   rw [if_pos (by omega)]
  ·have := bounds_u8 (hwf x (List.mem_of_mem_take hx))
   omega
theorem i64_wf' {n : Int} (h : (Lit.int .i64 n).wf = true) : I64 n := by
 obtain ⟨r1, r2⟩ := bounds_i64 h
 exact ⟨r1, by omega⟩
theorem cells_spot11 : Tryz.prog.cellsOf 24 = 2 := by kernel_rfl
theorem cells_bytesL : Tryz.prog.cellsOf 22 = 1 := by kernel_rfl
theorem cells_intL : Tryz.prog.cellsOf 3 = 1 := by kernel_rfl
set_option maxRecDepth 10000 in
theorem open_spotL {H : Type} {enc : TypeId × Value → H} {w : World} {base : Nat} {spare : Nat → Bool} {held : Bool} {cs : List Value} {fuel : Nat} {x : DataW H × List MemPlace} (hsz : cs.length = 2)
 (hf : DataW.trod enc Tryz.prog w base spare held fuel 24 cs = some x) :
 ∃ (v : Value) (b : List Int) (n : Int), cs = [v, .int .i64 n] ∧ Bv w v b ∧ By b ∧ I64 n := by
 obtain ⟨xs, m, _, _, _, hxl, hx⟩ := DataW.trod_struct Tryz.underlying24 hf
 have hxl2 : xs.length = 2 := hxl
 have h0 : DataW.trod enc Tryz.prog w base spare held m 22 ((cs.drop 0).take (Tryz.prog.cellsOf 22)) = xs[0]? := hx 0 _ rfl
 have h1 : DataW.trod enc Tryz.prog w base spare held m 3 ((cs.drop 1).take (Tryz.prog.cellsOf 3)) = xs[1]? := hx 1 _ rfl
 rw [List.getElem?_eq_getElem (by omega), cells_bytesL] at h0
 rw [List.getElem?_eq_getElem (by omega), cells_intL] at h1
 obtain ⟨v, b, hv, hb, hy⟩ := open_bytesL h0
 obtain ⟨n, hn, _, wf⟩ := DataW.trod_int Tryz.underlying3 h1
 refine ⟨v, b, n, ?_, hb, hy, i64_wf' wf⟩
 match cs, hsz with
 | [a, c], _ =>
  simp only [List.drop_zero, List.drop_succ_cons, List.take_succ_cons, List.take_zero, List.cons.injEq, and_true] at hv hn
  rw [hv, hn]
end Go.Proofs.YtpapfkihjhhjkaaGreat
