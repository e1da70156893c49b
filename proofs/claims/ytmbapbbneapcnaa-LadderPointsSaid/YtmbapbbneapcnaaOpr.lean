/- Two arrays of bytes as an argument. -/
import Derived.Test.YtmbapbbneapcnaaOps
import Derived.Test.YtmbapbbneapcnaaJ11
set_option linter.unusedSimpArgs false
set_option linter.unusedVariables false
namespace Go.Proofs.Ytmbapbbneapcnaa
open Go.ChangeShapes Go.WideShapes Go.ChangeAt Go.RowKit
theorem cells_raws : Try.prog.cellsOf 25 = 112 := by kernel_rfl
set_option maxRecDepth 10000 in
theorem open_raws {H : Type} {enc : TypeId × Value → H} {w : World} {base b0 : Nat} {spare : Nat → Bool} {held : Bool} {v : Value} {d : DataW H} {p : List MemPlace}
    (hok : Value.okWide Try.prog w .any b0 25 v) (h : DataW.Trod enc Try.prog w base spare held 25 v d p) :
    ∃ b c : List Int, v = AG (ys b ++ ys c) ∧ b.length = 56 ∧ By b ∧ c.length = 56 ∧ By c := by
  obtain ⟨cs, rfl, hsz⟩ := okWide_arr Try.underlying25 hok
  rw [cells_raws] at hsz
  obtain ⟨fuel, hf⟩ := h
  obtain ⟨xs, m, _, _, _, hxl, hx⟩ := DataW.trod_array Try.underlying25 hf
  rw [cells_raw] at hx
  have hc : (Value.agg cs).cells.toList = cs.toList := rfl
  rw [hc] at hx
  have hl : cs.toList.length = 112 := by simpa using hsz
  have h0 := hx 0 (by omega)
  have h1 := hx 1 (by omega)
  rw [List.getElem?_eq_getElem (by omega)] at h0
  rw [List.getElem?_eq_getElem (by omega)] at h1
  obtain ⟨b, hb, hbl, hby⟩ := open_arr Try.underlying23 (by rw [List.length_take, List.length_drop]; omega) h0
  obtain ⟨c, hcc, hcl, hcy⟩ := open_arr Try.underlying23 (by rw [List.length_take, List.length_drop]; omega) h1
  refine ⟨b, c, ?_, hbl, hby, hcl, hcy⟩
  have e : cs.toList = ys b ++ ys c := by
    rw [← hb, ← hcc, Nat.zero_mul, List.drop_zero, Nat.one_mul]
    conv => lhs; rw [← List.take_append_drop 56 cs.toList]
    congr 1
    rw [List.take_of_length_le (by rw [List.length_drop]; omega)]
  rw [AG, ← e]
theorem ok_raws {env : List Value} {k k' n n' : Nat} {l l' : List Int} (h : env[k]? = some (AG (ys l))) (hl : l.length = n) (h' : env[k']? = some (AG (ys l'))) (hl' : l'.length = n') : Leaf.OK env [] (.agg [.whole k n, .whole k' n']) := by
  intro s hs
  simp only [List.mem_cons, List.not_mem_nil, or_false] at hs
  rcases hs with rfl | rfl
  · exact ⟨ys l, h, by simpa using hl, ys_one l⟩
  · exact ⟨ys l', h', by simpa using hl', ys_one l'⟩
theorem i64_wf {n : Int} (h : (Lit.int .i64 n).wf = true) : I64 n := by
  obtain ⟨r1, r2⟩ := bounds_i64 h
  exact ⟨r1, by omega⟩
end Go.Proofs.Ytmbapbbneapcnaa
