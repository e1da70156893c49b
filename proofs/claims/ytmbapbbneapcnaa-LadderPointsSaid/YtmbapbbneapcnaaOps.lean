/- A spot as an argument. -/
import Derived.Test.YtmbapbbneapcnaaJ12
set_option linter.unusedSimpArgs false
set_option linter.unusedVariables false
namespace Go.Proofs.Ytmbapbbneapcnaa
open Go.ChangeShapes Go.WideShapes Go.ChangeAt Go.RowKit

/-- an array of bytes, as it is read -/
theorem open_arr {H : Type} {enc : TypeId × Value → H} {w : World} {base : Nat} {spare : Nat → Bool} {held : Bool} {t : TypeId} {n fuel : Nat} {cs : List Value} {x : DataW H × List MemPlace}
    (ht : Try.prog.underlying t = some (.array n 5)) (hn : cs.length = n) (hf : DataW.trod enc Try.prog w base spare held fuel t cs = some x) : ∃ b : List Int, cs = ys b ∧ b.length = n ∧ By b := by
  obtain ⟨xs, m, _, _, _, hxl, hx⟩ := DataW.trod_array ht hf
  rw [cells_u8] at hx
  have each : ∀ i, i < n → ∃ k : Int, cs[i]? = some (.int .u8 k) ∧ 0 ≤ k ∧ k < 256 := by
    intro i hi
    have := hx i hi
    rw [List.getElem?_eq_getElem (by omega)] at this
    obtain ⟨k, e, _, wf⟩ := DataW.trod_int Try.underlying5 this
    have hb := bounds_u8 wf
    exact ⟨k, one_of _ i _ e, by omega, by omega⟩
  refine ⟨cs.map fun v => match v with | .int _ n => n | _ => 0, ?_, by simpa using hn, ?_⟩
  · apply List.ext_getElem?
    intro i
    by_cases hi : i < n
    · obtain ⟨n, e, _⟩ := each i hi
      simp [ys, e]
    · have h1 : cs[i]? = none := by simp; omega
      simp [ys, h1]
  · intro x hx
    obtain ⟨v, hv, rfl⟩ := List.mem_map.1 hx
    obtain ⟨i, hi⟩ := List.mem_iff_getElem?.1 hv
    have hlt : i < n := by
      have := (List.getElem?_eq_some_iff.1 hi).1
      omega
    obtain ⟨n, e, hn⟩ := each i hlt
    rw [e] at hi
    injection hi with hi
    subst hi
    exact hn
theorem cells_spot : Try.prog.cellsOf 68 = 58 := by kernel_rfl
theorem cells_57 : Try.prog.cellsOf 66 = 57 := by kernel_rfl
theorem cells_int : Try.prog.cellsOf 3 = 1 := by kernel_rfl
set_option maxRecDepth 10000 in
theorem open_spot {H : Type} {enc : TypeId × Value → H} {w : World} {base b0 : Nat} {spare : Nat → Bool} {held : Bool} {v : Value} {d : DataW H} {p : List MemPlace}
    (hok : Value.okWide Try.prog w .any b0 68 v) (h : DataW.Trod enc Try.prog w base spare held 68 v d p) :
    ∃ (b : List Int) (n : Int), v = AG (ys b ++ [.int .i64 n]) ∧ b.length = 57 ∧ By b ∧ -9223372036854775808 ≤ n ∧ n < 9223372036854775808 := by
  obtain ⟨cs, rfl, hsz⟩ := okWide_struct Try.underlying68 hok
  rw [cells_spot] at hsz
  obtain ⟨fuel, hf⟩ := h
  obtain ⟨xs, m, _, _, _, hxl, hx⟩ := DataW.trod_struct Try.underlying68 hf
  have hc : (Value.agg cs).cells.toList = cs.toList := rfl
  rw [hc] at hx
  have hl : cs.toList.length = 58 := by simpa using hsz
  have hxl2 : xs.length = 2 := hxl
  have h0 : DataW.trod enc Try.prog w base spare held m 66 ((cs.toList.drop 0).take (Try.prog.cellsOf 66)) = xs[0]? := hx 0 _ rfl
  have h1 : DataW.trod enc Try.prog w base spare held m 3 ((cs.toList.drop 57).take (Try.prog.cellsOf 3)) = xs[1]? := hx 1 _ rfl
  rw [List.getElem?_eq_getElem (by omega), cells_57] at h0
  rw [List.getElem?_eq_getElem (by omega), cells_int] at h1
  obtain ⟨b, hb, hbl, hby⟩ := open_arr Try.underlying66 (by rw [List.length_take, List.length_drop]; omega) h0
  obtain ⟨n, hn, _, wf⟩ := DataW.trod_int Try.underlying3 h1
  obtain ⟨r1, r2⟩ := bounds_i64 wf
  refine ⟨b, n, ?_, hbl, hby, r1, by omega⟩
  have e : cs.toList = ys b ++ [.int .i64 n] := by
    rw [← hb, ← hn, List.drop_zero]
    conv => lhs; rw [← List.take_append_drop 57 cs.toList]
    congr 1
    rw [List.take_of_length_le (by rw [List.length_drop]; omega)]
  rw [AG, ← e]
end Go.Proofs.Ytmbapbbneapcnaa
