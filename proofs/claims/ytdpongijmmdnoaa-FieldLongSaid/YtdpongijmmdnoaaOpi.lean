/- A slice of calls (four ints each) as an argument. -/
import Derived.Test.YtdpongijmmdnoaaOpc
set_option linter.unusedSimpArgs false
set_option linter.unusedVariables false
namespace Go.Proofs.Ytdpongijmmdnoaa
open Go.ChangeShapes Go.WideShapes Go.ChangeAt Go.RowKit FdP FdP.Ch
structure Ca where
 d : Int
 a : Int
 b : Int
 n : Int
def Ca.ok (c : Ca) : Prop := I64 c.d ∧ I64 c.a ∧ I64 c.b ∧ I64 c.n
@[reducible] def caA (e : Ca) : AV := .agg [.int .i64 e.d, .int .i64 e.a, .int .i64 e.b, .int .i64 e.n]
def caV (e : Ca) : List Value := [.int .i64 e.d, .int .i64 e.a, .int .i64 e.b, .int .i64 e.n]
def Sv4 (w : World) (v : Value) (es : List Ca) : Prop := valR0 ⟨w, fun _ => False⟩ (.sl 4 (es.map caA)) v ∧ v.oneCell' = true
theorem cellsRs_push4 {β : Base} {a : AV} {c : List Value} (hc : c.length = 4) (ha : cellsR β a c) : ∀ (l : List AV) (xs : List Value), cellsRs β (some 4) l xs → cellsRs β (some 4) (l ++ [a]) (xs ++ c)
 | [], xs, h => by
  obtain rfl : xs = [] := h
  exact ⟨c, [], (List.append_nil _).symm ▸ rfl, fun n hn => by cases hn; exact hc, ha, rfl⟩
 | b :: l, xs, ⟨p, q, e, hp, hb, hq⟩ => by
  subst e
  exact ⟨p, q ++ c, by rw [List.append_assoc], hp, hb, cellsRs_push4 hc ha l q hq⟩
theorem caA_cells {β : Base} (e : Ca) : cellsR β (caA e) (caV e) :=
 ⟨[_], _, rfl, (fun m hm => by cases hm), rfl, [_], _, rfl, (fun m hm => by cases hm), rfl, [_], _, rfl, (fun m hm => by cases hm), rfl, [_], _, rfl, (fun m hm => by cases hm), rfl, rfl⟩
theorem cells_call4 : Try.prog.cellsOf 65 = 4 := by kernel_rfl
set_option maxRecDepth 10000 in
theorem open_callL {H : Type} {enc : TypeId × Value → H} {w : World} {base : Nat} {spare : Nat → Bool} {held : Bool} {cs : List Value} {fuel : Nat} {x : DataW H × List MemPlace} (hsz : cs.length = 4)
 (hf : DataW.trod enc Try.prog w base spare held fuel 65 cs = some x) : ∃ e : Ca, cs = caV e ∧ e.ok := by
 obtain ⟨xs, m, _, _, _, hxl, hx⟩ := DataW.trod_struct Try.underlying65 hf
 have hxl2 : xs.length = 4 := hxl
 have h0 : DataW.trod enc Try.prog w base spare held m 3 ((cs.drop 0).take (Try.prog.cellsOf 3)) = xs[0]? := hx 0 _ rfl
 have h1 : DataW.trod enc Try.prog w base spare held m 3 ((cs.drop 1).take (Try.prog.cellsOf 3)) = xs[1]? := hx 1 _ rfl
 have h2 : DataW.trod enc Try.prog w base spare held m 3 ((cs.drop 2).take (Try.prog.cellsOf 3)) = xs[2]? := hx 2 _ rfl
 have h3 : DataW.trod enc Try.prog w base spare held m 3 ((cs.drop 3).take (Try.prog.cellsOf 3)) = xs[3]? := hx 3 _ rfl
 rw [List.getElem?_eq_getElem (by omega), cells_intL] at h0 h1 h2 h3
 obtain ⟨d, hd, _, wd⟩ := DataW.trod_int Try.underlying3 h0
 obtain ⟨a, ha, _, wa⟩ := DataW.trod_int Try.underlying3 h1
 obtain ⟨b, hb, _, wb⟩ := DataW.trod_int Try.underlying3 h2
 obtain ⟨n, hn, _, wn⟩ := DataW.trod_int Try.underlying3 h3
 refine ⟨⟨d, a, b, n⟩, ?_, i64_wf' wd, i64_wf' wa, i64_wf' wb, i64_wf' wn⟩
 match cs, hsz with
 | [p, q, r, s], _ =>
  simp only [List.drop_zero, List.drop_succ_cons, List.take_succ_cons, List.take_zero, List.cons.injEq, and_true] at hd ha hb hn
  rw [hd, ha, hb, hn]; rfl
set_option maxRecDepth 10000 in
theorem open_calls {H : Type} {enc : TypeId × Value → H} {w : World} {base b0 : Nat} {spare : Nat → Bool} {held : Bool} {v : Value} {d : DataW H} {p : List MemPlace}
 (hok : Value.okWide Try.prog w .any b0 60 v) (h : DataW.Trod enc Try.prog w base spare held 60 v d p) :
 ∃ es : List Ca, Sv4 w v es ∧ ∀ e ∈ es, e.ok := by
 obtain ⟨a0, len0, cap0, rfl⟩ := Go.WideShapes.okWide_slice Try.underlying60 hok
 obtain ⟨fuel, hf⟩ := h
 rcases DataW.trod_slice Try.underlying60 hf with ⟨hcs, _⟩ | ⟨a, len, cap, elems, rest, n, _, hcs, _, hb, hl, hm, hlen, hel, _, _⟩
 ·simp [Value.cells] at hcs
  obtain ⟨rfl, rfl, rfl⟩ := hcs
  exact ⟨[], ⟨valR0.mk1 rfl ⟨_, [], rfl, ⟨none, 0, rfl, Nat.le_refl _, rfl, fun h => absurd h (by simp)⟩, rfl⟩, rfl⟩, fun x hx => by cases hx⟩
 simp [Value.cells] at hcs
 obtain ⟨rfl, rfl, rfl⟩ := hcs
 have each : ∀ i, i < len0 → ∃ e : Ca, e.ok ∧ ∀ j, j < 4 → w.cell? ((a.add (i * 4)).add j) = (caV e)[j]? := by
  intro i hi
  have h1 := hel i hi
  rw [List.getElem?_eq_getElem (by omega), cells_call4] at h1
  obtain ⟨cs', hc1, hc2⟩ := Option.bind_eq_some_iff.1 h1
  obtain ⟨_, hcl, hcc⟩ := World.cells?_some hc1
  obtain ⟨e, he, hok⟩ := open_callL hcl hc2
  subst he
  exact ⟨e, hok, fun j hj => by rw [hcc j hj]⟩
 by_cases h0 : len0 = 0
 ·subst h0
  exact ⟨[], ⟨valR0.mk1 rfl ⟨_, [], rfl, ⟨some a, cap0, rfl, Nat.zero_le _, rfl, fun h => absurd h (by simp)⟩, rfl⟩, rfl⟩, fun x hx => by cases hx⟩
 have ha : ∃ g off, a = ⟨g, off, none⟩ := by
  obtain ⟨e, _, hc⟩ := each 0 (by omega)
  have hc := hc 0 (by omega)
  obtain ⟨g, off, spot⟩ := a
  have hs : spot = none := by simpa [Addr.add] using World.cell?_spot (v := .int .i64 e.d) hc
  subst hs
  exact ⟨g, off, rfl⟩
 obtain ⟨g, off, rfl⟩ := ha
 have build : ∀ k, k ≤ len0 → ∃ (es : List Ca) (xs : List Value), es.length = k ∧ xs.length = k * 4 ∧ (∀ j, j < k * 4 → w.cell? ⟨g, off + j, none⟩ = xs[j]?) ∧ cellsRs ⟨w, fun _ => False⟩ (some 4) (es.map caA) xs ∧ ∀ e ∈ es, e.ok := by
  intro k
  induction k with
  | zero => intro _; exact ⟨[], [], rfl, rfl, fun j hj => by omega, rfl, fun x hx => by cases hx⟩
  | succ k ih =>
   intro hk
   obtain ⟨es, xs, e1, e2, e3, e4, e5⟩ := ih (by omega)
   obtain ⟨m, k1, c⟩ := each k (by omega)
   refine ⟨es ++ [m], xs ++ caV m, by simp [e1], by have h4 : (caV m).length = 4 := rfl; rw [List.length_append]; omega, fun j hj => ?_, ?_, ?_⟩
   ·by_cases hj1 : j < k * 4
    ·rw [List.getElem?_append_left (by omega)]; exact e3 j hj1
    ·rw [List.getElem?_append_right (by omega), e2]
     have := c (j - k * 4) (by omega)
     rw [add_plain, add_plain] at this
     rw [← this, show off + j = off + k * 4 + (j - k * 4) by omega]
   ·rw [List.map_append]; exact cellsRs_push4 rfl (caA_cells m) _ _ e4
   ·intro e he
    rcases List.mem_append.1 he with he | he
    ·exact e5 e he
    ·obtain rfl := List.mem_singleton.1 he
     exact k1
 obtain ⟨es, xs, e1, e2, e3, e4, e5⟩ := build len0 (Nat.le_refl _)
 refine ⟨es, ⟨valR0.mk1 rfl ⟨_, xs, rfl, ⟨some ⟨g, off, none⟩, cap0, by rw [List.length_map, e1], by rw [List.length_map, e1]; exact hl, by rw [List.length_map, e1]; exact e2, fun hp => ?_⟩, e4⟩, rfl⟩, e5⟩
 have c0 := e3 0 (by omega)
 rw [List.getElem?_eq_getElem (by omega)] at c0
 exact ⟨g, off, rfl, World.block_lt_of_cell? w ⟨g, off + 0, none⟩ c0, fun h => h, fun j hj => e3 j (by omega)⟩
end Go.Proofs.Ytdpongijmmdnoaa
