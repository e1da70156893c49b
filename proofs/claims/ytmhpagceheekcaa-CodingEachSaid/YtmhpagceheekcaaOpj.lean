/- An array of 56 bytes as an argument. -/
import Derived.Test.YtmhpagceheekcaaJ12
set_option linter.unusedSimpArgs false
set_option linter.unusedVariables false
namespace Go.Proofs.Ytmhpagceheekcaa
open Go.ChangeShapes Go.WideShapes Go.ChangeAt Go.RowKit
theorem cells_arr56 : Try.prog.cellsOf 41 = 56 := by kernel_rfl
set_option maxRecDepth 10000 in
theorem open_arr56 {H : Type} {enc : TypeId × Value → H} {w : World} {base b0 : Nat} {spare : Nat → Bool} {held : Bool} {v : Value} {d : DataW H} {p : List MemPlace}
 (hok : Value.okWide Try.prog w .any b0 41 v) (h : DataW.Trod enc Try.prog w base spare held 41 v d p) : ∃ b : List Int, v = AG (ys b) ∧ b.length = 56 ∧ By b := by
 obtain ⟨cs, rfl, hsz⟩ := okWide_arr Try.underlying41 hok
 rw [cells_arr56] at hsz
 obtain ⟨fuel, hf⟩ := h
 obtain ⟨xs, m, _, _, _, hxl, hx⟩ := DataW.trod_array Try.underlying41 hf
 rw [cells_u8] at hx
 have hc : (Value.agg cs).cells.toList = cs.toList := rfl
 rw [hc] at hx
 have each : ∀ i, i < 56 → ∃ n : Int, cs.toList[i]? = some (.int .u8 n) ∧ 0 ≤ n ∧ n < 256 := by
  intro i hi
  have := hx i hi
  rw [List.getElem?_eq_getElem (by omega)] at this
  obtain ⟨n, e, _, wf⟩ := DataW.trod_int Try.underlying5 this
  have hb := bounds_u8 wf
  exact ⟨n, one_of _ i _ e, by omega, by omega⟩
 refine ⟨cs.toList.map fun v => match v with | .int _ n => n | _ => 0, ?_, by simpa using hsz, ?_⟩
 ·have : cs.toList = ys (cs.toList.map fun v => match v with | .int _ n => n | _ => 0) := by
   apply List.ext_getElem?
   intro i
   by_cases hi : i < 56
   ·obtain ⟨n, e, _⟩ := each i hi
    simp [ys, e]
   ·have h1 : cs.toList[i]? = none := by simp; omega
    simp [ys, h1]
  rw [AG, ← this]
 ·intro x hx
  obtain ⟨v, hv, rfl⟩ := List.mem_map.1 hx
  obtain ⟨i, hi⟩ := List.mem_iff_getElem?.1 hv
  have hlt : i < 56 := by
   have := (List.getElem?_eq_some_iff.1 hi).1
   simp at this; omega
  obtain ⟨n, e, hn⟩ := each i hlt
  rw [e] at hi
  injection hi with hi
  subst hi
  exact hn
end Go.Proofs.Ytmhpagceheekcaa
