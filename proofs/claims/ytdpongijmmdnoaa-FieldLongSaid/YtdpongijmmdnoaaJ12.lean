/- joined: Opn -/
import Derived.Test.YtdpongijmmdnoaaJ11
import Derived.WalkKit
import Derived.ProofKit
import Derived.OpenShut
import Derived.ChangeOld
import Derived.Below
import Derived.ChangeSlices
set_option linter.unusedSimpArgs false
set_option linter.unusedVariables false
/- An array of bytes as an argument. -/
namespace Go.Proofs.Ytdpongijmmdnoaa
open Go.ChangeShapes Go.WideShapes Go.ChangeAt Go.RowKit

theorem okWide_arr {P : Program} {w : World} {r : Reach} {base : Nat} {t : TypeId} {v : Value} {n : Nat} {e : TypeId} (ht : P.underlying t = some (.array n e)) (h : Value.okWide P w r base t v) : ∃ cs : Array Value, v = .agg cs ∧ cs.size = P.cellsOf t := by
 simp only [Value.okWide, ht] at h
 obtain ⟨cs, h1, h2, _⟩ := h
 exact ⟨cs, h1, h2⟩

theorem cells_raw : Try.prog.cellsOf 23 = 56 := by kernel_rfl
theorem cells_u8 : Try.prog.cellsOf 5 = 1 := by kernel_rfl

theorem one_of {α : Type} (l : List α) (i : Nat) (x : α) (h : (l.drop (i * 1)).take 1 = [x]) : l[i]? = some x := by
 rw [Nat.mul_one] at h
 have := congrArg (·[0]?) h
 simpa [List.getElem?_take, List.getElem?_drop] using this

set_option maxRecDepth 10000 in
theorem open_raw {H : Type} {enc : TypeId × Value → H} {w : World} {base b0 : Nat} {spare : Nat → Bool} {held : Bool} {v : Value} {d : DataW H} {p : List MemPlace}
 (hok : Value.okWide Try.prog w .any b0 23 v) (h : DataW.Trod enc Try.prog w base spare held 23 v d p) : ∃ b : List Int, v = AG (ys b) ∧ b.length = 56 ∧ By b := by
 obtain ⟨cs, rfl, hsz⟩ := okWide_arr Try.underlying23 hok
 rw [cells_raw] at hsz
 obtain ⟨fuel, hf⟩ := h
 obtain ⟨xs, m, _, _, _, hxl, hx⟩ := DataW.trod_array Try.underlying23 hf
 rw [cells_u8] at hx
 have hc : (Value.agg cs).cells.toList = cs.toList := rfl
 rw [hc] at hx
 have each : ∀ i, i < 56 → ∃ n : Int, cs.toList[i]? = some (.int .u8 n) ∧ 0 ≤ n ∧ n < 256 := by
  intro i hi
  have := hx i hi
  rw [List.getElem?_eq_getElem (by omega)] at this
  obtain ⟨n, e, _, wf⟩ := DataW.trod_int Try.underlying5 this
  have hb := bounds_u8 wf
  exact ⟨n, one_of _ i _ e, by omega, by omega⟩
 refine ⟨cs.toList.map fun v => match v with | .int _ n => n | _ => 0, ?_, by simpa using hsz, ?_⟩
 ·have : cs.toList = ys (cs.toList.map fun v => match v with | .int _ n => n | _ => 0) := by
   apply List.ext_getElem?
   intro i
   by_cases hi : i < 56
   ·obtain ⟨n, e, _⟩ := each i hi
    simp [ys, e]
   ·have h1 : cs.toList[i]? = none := by simp; omega
    simp [ys, h1]
  rw [AG, ← this]
 ·intro x hx
  obtain ⟨v, hv, rfl⟩ := List.mem_map.1 hx
  obtain ⟨i, hi⟩ := List.mem_iff_getElem?.1 hv
  have hlt : i < 56 := by
   have := (List.getElem?_eq_some_iff.1 hi).1
   simp at this; omega
  obtain ⟨n, e, hn⟩ := each i hlt
  rw [e] at hi
  injection hi with hi
  subst hi
  exact hn
end Go.Proofs.Ytdpongijmmdnoaa
