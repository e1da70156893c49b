/- Two slices of bytes as an argument. -/
import Derived.Test.YtohebkkiicbdoaaOpc
set_option linter.unusedSimpArgs false
set_option linter.unusedVariables false
namespace Go.Proofs.Ytohebkkiicbdoaa
open Go.ChangeShapes Go.WideShapes Go.ChangeAt Go.RowKit
theorem cells_bytes2 : Try.prog.cellsOf 23 = 2 := by kernel_rfl
set_option maxRecDepth 10000 in
theorem open_bytes2 {H : Type} {enc : TypeId × Value → H} {w : World} {base b0 : Nat} {spare : Nat → Bool} {held : Bool} {v : Value} {d : DataW H} {p : List MemPlace}
 (hok : Value.okWide Try.prog w .any b0 23 v) (h : DataW.Trod enc Try.prog w base spare held 23 v d p) :
 ∃ (u : Value) (b : List Int) (u' : Value) (c : List Int), v = AG [u, u'] ∧ (Bv w u b ∧ By b) ∧ Bv w u' c ∧ By c := by
 obtain ⟨cs, rfl, hsz⟩ := okWide_arr Try.underlying23 hok
 rw [cells_bytes2] at hsz
 obtain ⟨fuel, hf⟩ := h
 obtain ⟨xs, k, _, _, _, hxl, hx⟩ := DataW.trod_array Try.underlying23 hf
 rw [cells_bytesL] at hx
 have hc : (Value.agg cs).cells.toList = cs.toList := rfl
 rw [hc] at hx
 have hl : cs.toList.length = 2 := by simpa using hsz
 have h0 := hx 0 (by omega)
 have h1 := hx 1 (by omega)
 rw [List.getElem?_eq_getElem (by omega)] at h0
 rw [List.getElem?_eq_getElem (by omega)] at h1
 obtain ⟨u, b, e, k1, k2⟩ := open_bytesL h0
 obtain ⟨u', c, e', k4, k5⟩ := open_bytesL h1
 refine ⟨u, b, u', c, ?_, ⟨k1, k2⟩, k4, k5⟩
 rw [AG, ← two_cells hl (by simpa using e) (by simpa using e')]
end Go.Proofs.Ytohebkkiicbdoaa
