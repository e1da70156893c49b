/- Spots and plans of chapter 11 as arguments. -/
import Derived.Test.YtohebkkiicbdoaaOpb
set_option linter.unusedSimpArgs false
set_option linter.unusedVariables false
namespace Go.Proofs.Ytohebkkiicbdoaa
open Go.ChangeShapes Go.WideShapes Go.ChangeAt Go.RowKit
set_option maxRecDepth 10000 in
theorem open_bytesL {H : Type} {enc : TypeId × Value → H} {w : World} {base : Nat} {spare : Nat → Bool} {held : Bool} {cs : List Value} {fuel : Nat} {x : DataW H × List MemPlace}
 (hf : DataW.trod enc Try.prog w base spare held fuel 22 cs = some x) : ∃ v b, cs = [v] ∧ Bv w v b ∧ By b := by
 rcases Go.ChangeShapes.open_ints Try.underlying22 Try.underlying5 cells_u8 hf with ⟨hcs, _⟩ | ⟨a, len', cap', zs, hcs, _, hle, _, hall, _, hc, hwf⟩
 ·exact ⟨_, [], hcs, ⟨none, 0, rfl, Nat.le_refl _, fun h => by simp at h⟩, fun x hx => by cases hx⟩
 ·have hlz : len' ≤ zs.length := by rw [hall]; split <;> omega
  refine ⟨_, zs.take len', hcs, ⟨some a, cap', by rw [List.length_take, Nat.min_eq_left hlz], by rw [List.length_take, Nat.min_eq_left hlz]; exact hle, fun hp => ?_⟩, fun x hx => ?_⟩
  ·have hp' : 0 < zs.length := by rw [List.length_take] at hp; omega
   obtain ⟨g, off, rfl, hg⟩ := Go.ints_at hc hp'
   refine ⟨g, off, rfl, fun j hj => ?_⟩
   rw [List.length_take] at hj
   rw [hg j (by omega)]
   congr 2
   simp only [List.getD, List.getElem?_take]
   rw [if_pos (by omega)]
  ·have := bounds_u8 (hwf x (List.mem_of_mem_take hx))
   omega
theorem i64_wf' {n : Int} (h : (Lit.int .i64 n).wf = true) : I64 n := by
 obtain ⟨r1, r2⟩ := bounds_i64 h
 exact ⟨r1, by omega⟩
theorem cells_spot11 : Try.prog.cellsOf 25 = 2 := by kernel_rfl
theorem cells_bytesL : Try.prog.cellsOf 22 = 1 := by kernel_rfl
theorem cells_intL : Try.prog.cellsOf 3 = 1 := by kernel_rfl
set_option maxRecDepth 10000 in
theorem open_spotL {H : Type} {enc : TypeId × Value → H} {w : World} {base : Nat} {spare : Nat → Bool} {held : Bool} {cs : List Value} {fuel : Nat} {x : DataW H × List MemPlace} (hsz : cs.length = 2)
 (hf : DataW.trod enc Try.prog w base spare held fuel 25 cs = some x) :
 ∃ (v : Value) (b : List Int) (n : Int), cs = [v, .int .i64 n] ∧ Bv w v b ∧ By b ∧ I64 n := by
 obtain ⟨xs, m, _, _, _, hxl, hx⟩ := DataW.trod_struct Try.underlying25 hf
 have hxl2 : xs.length = 2 := hxl
 have h0 : DataW.trod enc Try.prog w base spare held m 22 ((cs.drop 0).take (Try.prog.cellsOf 22)) = xs[0]? := hx 0 _ rfl
 have h1 : DataW.trod enc Try.prog w base spare held m 3 ((cs.drop 1).take (Try.prog.cellsOf 3)) = xs[1]? := hx 1 _ rfl
 rw [List.getElem?_eq_getElem (by omega), cells_bytesL] at h0
 rw [List.getElem?_eq_getElem (by omega), cells_intL] at h1
 obtain ⟨v, b, hv, hb, hy⟩ := open_bytesL h0
 obtain ⟨n, hn, _, wf⟩ := DataW.trod_int Try.underlying3 h1
 refine ⟨v, b, n, ?_, hb, hy, i64_wf' wf⟩
 match cs, hsz with
 | [a, c], _ =>
  simp only [List.drop_zero, List.drop_succ_cons, List.take_succ_cons, List.take_zero, List.cons.injEq, and_true] at hv hn
  rw [hv, hn]
set_option maxRecDepth 10000 in
theorem open_spot11 {H : Type} {enc : TypeId × Value → H} {w : World} {base b0 : Nat} {spare : Nat → Bool} {held : Bool} {v : Value} {d : DataW H} {p : List MemPlace}
 (hok : Value.okWide Try.prog w .any b0 25 v) (h : DataW.Trod enc Try.prog w base spare held 25 v d p) :
 ∃ (u : Value) (b : List Int) (n : Int), v = AG [u, .int .i64 n] ∧ Bv w u b ∧ By b ∧ I64 n := by
 obtain ⟨cs, rfl, hsz⟩ := okWide_struct Try.underlying25 hok
 rw [cells_spot11] at hsz
 obtain ⟨fuel, hf⟩ := h
 have hf' : DataW.trod enc Try.prog w base spare held fuel 25 cs.toList = some (d, p) := hf
 obtain ⟨u, b, n, e, h1, h2, h3⟩ := open_spotL (by simpa using hsz) hf'
 exact ⟨u, b, n, by rw [AG, ← e], h1, h2, h3⟩
theorem two_cells {l : List Value} {a b : Value} (hl : l.length = 2) (h0 : (l.drop 0).take 1 = [a]) (h1 : (l.drop 1).take 1 = [b]) : l = [a, b] := by
 match l, hl with
 | [x, y], _ =>
  simp only [List.drop_zero, List.drop_succ_cons, List.take_succ_cons, List.take_zero, List.cons.injEq, and_true] at h0 h1
  rw [h0, h1]
theorem ok_two {env : List Value} {k k' : Nat} {v v' : Value} (h : env[k]? = some v) (h1 : v.oneCell' = true) (h' : env[k']? = some v') (h1' : v'.oneCell' = true) : Leaf.OK env [] (.agg [.one (.var k), .one (.var k')]) := by
 intro s hs
 simp only [List.mem_cons, List.not_mem_nil, or_false] at hs
 rcases hs with rfl | rfl
 ·exact ⟨(List.getElem?_eq_some_iff.1 h).1, by simp only [List.getD, h]; exact h1⟩
 ·exact ⟨(List.getElem?_eq_some_iff.1 h').1, by simp only [List.getD, h']; exact h1'⟩
end Go.Proofs.Ytohebkkiicbdoaa
