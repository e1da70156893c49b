/- Two spots as an argument. -/
import Derived.Test.YtohebkkiicbdoaaGreatOpc
set_option linter.unusedSimpArgs false
set_option linter.unusedVariables false
namespace Go.Proofs.YtohebkkiicbdoaaGreat
open Go.ChangeShapes Go.WideShapes Go.ChangeAt Go.RowKit
theorem cells_spot2 : Tryz.prog.cellsOf 25 = 4 := by kernel_rfl
set_option maxRecDepth 10000 in
theorem open_spot2 {H : Type} {enc : TypeId × Value → H} {w : World} {base b0 : Nat} {spare : Nat → Bool} {held : Bool} {v : Value} {d : DataW H} {p : List MemPlace}
    (hok : Value.okWide Tryz.prog w .any b0 25 v) (h : DataW.Trod enc Tryz.prog w base spare held 25 v d p) :
    ∃ (u : Value) (b : List Int) (n : Int) (u' : Value) (c : List Int) (m : Int), v = AG [u, .int .i64 n, u', .int .i64 m] ∧ (Bv w u b ∧ By b ∧ I64 n) ∧ Bv w u' c ∧ By c ∧ I64 m := by
  obtain ⟨cs, rfl, hsz⟩ := okWide_arr Tryz.underlying25 hok
  rw [cells_spot2] at hsz
  obtain ⟨fuel, hf⟩ := h
  obtain ⟨xs, k, _, _, _, hxl, hx⟩ := DataW.trod_array Tryz.underlying25 hf
  rw [cells_spot11] at hx
  have hc : (Value.agg cs).cells.toList = cs.toList := rfl
  rw [hc] at hx
  have hl : cs.toList.length = 4 := by simpa using hsz
  have h0 := hx 0 (by omega)
  have h1 := hx 1 (by omega)
  rw [List.getElem?_eq_getElem (by omega)] at h0
  rw [List.getElem?_eq_getElem (by omega)] at h1
  obtain ⟨u, b, n, e, k1, k2, k3⟩ := open_spotL (by rw [List.length_take, List.length_drop]; omega) h0
  obtain ⟨u', c, m, e', k4, k5, k6⟩ := open_spotL (by rw [List.length_take, List.length_drop]; omega) h1
  refine ⟨u, b, n, u', c, m, ?_, ⟨k1, k2, k3⟩, k4, k5, k6⟩
  have ee : cs.toList = [u, .int .i64 n] ++ [u', .int .i64 m] := by
    rw [← e, ← e', Nat.zero_mul, List.drop_zero, Nat.one_mul]
    conv => lhs; rw [← List.take_append_drop 2 cs.toList]
    congr 1
    rw [List.take_of_length_le (by rw [List.length_drop]; omega)]
  rw [AG]
  have e4 : cs.toList = [u, .int .i64 n, u', .int .i64 m] := ee
  rw [← e4]
theorem ok_four {env : List Value} {k k' j j' : Nat} {v v' u u' : Value} (h : env[k]? = some v) (h1 : v.oneCell' = true) (h' : env[k']? = some v') (h1' : v'.oneCell' = true) (g : env[j]? = some u) (g1 : u.oneCell' = true) (g' : env[j']? = some u') (g1' : u'.oneCell' = true) : Leaf.OK env [] (.agg [.one (.var k), .one (.var k'), .one (.var j), .one (.var j')]) := by
  intro s hs
  simp only [List.mem_cons, List.not_mem_nil, or_false] at hs
  rcases hs with rfl | rfl | rfl | rfl
  · exact ⟨(List.getElem?_eq_some_iff.1 h).1, by simp only [List.getD, h]; exact h1⟩
  · exact ⟨(List.getElem?_eq_some_iff.1 h').1, by simp only [List.getD, h']; exact h1'⟩
  · exact ⟨(List.getElem?_eq_some_iff.1 g).1, by simp only [List.getD, g]; exact g1⟩
  · exact ⟨(List.getElem?_eq_some_iff.1 g').1, by simp only [List.getD, g']; exact g1'⟩
end Go.Proofs.YtohebkkiicbdoaaGreat
