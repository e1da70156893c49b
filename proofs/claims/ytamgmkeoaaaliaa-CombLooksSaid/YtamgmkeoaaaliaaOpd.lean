/- A slice of spots as an argument. -/
import Derived.Test.YtamgmkeoaaaliaaOpc
set_option linter.unusedSimpArgs false
set_option linter.unusedVariables false
namespace Go.Proofs.Ytamgmkeoaaaliaa
open Go.ChangeShapes Go.WideShapes Go.ChangeAt Go.RowKit FdP FdP.Ch
@[reducible] def spA (e : List Int × Int) : AV := .agg [.isl .u8 e.1, .int .i64 e.2]
def Sv11 (w : World) (v : Value) (es : List (List Int × Int)) : Prop := valR0 ⟨w, fun _ => False⟩ (.sl 2 (es.map spA)) v ∧ v.oneCell' = true
theorem cellsRs_push {β : Base} {a : AV} {c : List Value} (hc : c.length = 2) (ha : cellsR β a c) : ∀ (l : List AV) (xs : List Value), cellsRs β (some 2) l xs → cellsRs β (some 2) (l ++ [a]) (xs ++ c)
  | [], xs, h => by
    obtain rfl : xs = [] := h
    exact ⟨c, [], (List.append_nil _).symm ▸ rfl, fun n hn => by cases hn; exact hc, ha, rfl⟩
  | b :: l, xs, ⟨p, q, e, hp, hb, hq⟩ => by
    subst e
    exact ⟨p, q ++ c, by rw [List.append_assoc], hp, hb, cellsRs_push hc ha l q hq⟩
theorem spA_cells {w : World} {v : Value} {b : List Int} {n : Int} (h : Bv w v b) : cellsR ⟨w, fun _ => False⟩ (spA (b, n)) [v, .int .i64 n] := by
  have h' := bv_val h
  unfold valR0 at h'
  rw [if_neg (by simp [AV.isAgg])] at h'
  exact ⟨[v], [.int .i64 n], rfl, (fun m hm => by cases hm), h', [.int .i64 n], [], rfl, (fun m hm => by cases hm), rfl, rfl⟩
set_option maxRecDepth 10000 in
theorem open_spots {H : Type} {enc : TypeId × Value → H} {w : World} {base b0 : Nat} {spare : Nat → Bool} {held : Bool} {v : Value} {d : DataW H} {p : List MemPlace}
    (hok : Value.okWide Try.prog w .any b0 39 v) (h : DataW.Trod enc Try.prog w base spare held 39 v d p) :
    ∃ es : List (List Int × Int), Sv11 w v es ∧ ∀ e ∈ es, By e.1 ∧ I64 e.2 := by
  obtain ⟨a0, len0, cap0, rfl⟩ := Go.WideShapes.okWide_slice Try.underlying39 hok
  obtain ⟨fuel, hf⟩ := h
  rcases DataW.trod_slice Try.underlying39 hf with ⟨hcs, _⟩ | ⟨a, len, cap, elems, rest, n, _, hcs, _, hb, hl, hm, hlen, hel, _, _⟩
  · simp [Value.cells] at hcs
    obtain ⟨rfl, rfl, rfl⟩ := hcs
    exact ⟨[], ⟨valR0.mk1 rfl ⟨_, [], rfl, ⟨none, 0, rfl, Nat.le_refl _, rfl, fun h => absurd h (by simp)⟩, rfl⟩, rfl⟩, fun x hx => by cases hx⟩
  simp [Value.cells] at hcs
  obtain ⟨rfl, rfl, rfl⟩ := hcs
  have each : ∀ i, i < len0 → ∃ (u : Value) (b : List Int) (k : Int), Bv w u b ∧ By b ∧ I64 k ∧ w.cell? ((a.add (i * 2)).add 0) = some u ∧ w.cell? ((a.add (i * 2)).add 1) = some (.int .i64 k) := by
    intro i hi
    have h1 := hel i hi
    rw [List.getElem?_eq_getElem (by omega), cells_spot11] at h1
    obtain ⟨cs', hc1, hc2⟩ := Option.bind_eq_some_iff.1 h1
    obtain ⟨_, hcl, hcc⟩ := World.cells?_some hc1
    obtain ⟨u, b, k, e, k1, k2, k3⟩ := open_spotL hcl hc2
    subst e
    exact ⟨u, b, k, k1, k2, k3, hcc 0 (by omega), hcc 1 (by omega)⟩
  by_cases h0 : len0 = 0
  · subst h0
    exact ⟨[], ⟨valR0.mk1 rfl ⟨_, [], rfl, ⟨some a, cap0, rfl, Nat.zero_le _, rfl, fun h => absurd h (by simp)⟩, rfl⟩, rfl⟩, fun x hx => by cases hx⟩
  have ha : ∃ g off, a = ⟨g, off, none⟩ := by
    obtain ⟨u, b, k, _, _, _, hc, _⟩ := each 0 (by omega)
    obtain ⟨g, off, spot⟩ := a
    have hs : spot = none := by simpa [Addr.add] using World.cell?_spot hc
    subst hs
    exact ⟨g, off, rfl⟩
  obtain ⟨g, off, rfl⟩ := ha
  have build : ∀ k, k ≤ len0 → ∃ (es : List (List Int × Int)) (xs : List Value), es.length = k ∧ xs.length = k * 2 ∧ (∀ j, j < k * 2 → w.cell? ⟨g, off + j, none⟩ = xs[j]?) ∧ cellsRs ⟨w, fun _ => False⟩ (some 2) (es.map spA) xs ∧ ∀ e ∈ es, By e.1 ∧ I64 e.2 := by
    intro k
    induction k with
    | zero => intro _; exact ⟨[], [], rfl, rfl, fun j hj => by omega, rfl, fun x hx => by cases hx⟩
    | succ k ih =>
      intro hk
      obtain ⟨es, xs, e1, e2, e3, e4, e5⟩ := ih (by omega)
      obtain ⟨u, b, m, k1, k2, k3, c0, c1⟩ := each k (by omega)
      rw [add_plain, add_plain] at c0 c1
      refine ⟨es ++ [(b, m)], xs ++ [u, .int .i64 m], by simp [e1], by simp [e2]; omega, fun j hj => ?_, ?_, ?_⟩
      · by_cases hj1 : j < k * 2
        · rw [List.getElem?_append_left (by omega)]; exact e3 j hj1
        · rw [List.getElem?_append_right (by omega), e2]
          rcases (by omega : j = k * 2 ∨ j = k * 2 + 1) with rfl | rfl
          · rw [Nat.sub_self]; exact c0
          · rw [show k * 2 + 1 - k * 2 = 1 by omega, ← Nat.add_assoc]; exact c1
      · rw [List.map_append]; exact cellsRs_push rfl (spA_cells k1) _ _ e4
      · intro e he
        rcases List.mem_append.1 he with he | he
        · exact e5 e he
        · obtain rfl := List.mem_singleton.1 he
          exact ⟨k2, k3⟩
  obtain ⟨es, xs, e1, e2, e3, e4, e5⟩ := build len0 (Nat.le_refl _)
  refine ⟨es, ⟨valR0.mk1 rfl ⟨_, xs, rfl, ⟨some ⟨g, off, none⟩, cap0, by rw [List.length_map, e1], by rw [List.length_map, e1]; exact hl, by rw [List.length_map, e1]; exact e2, fun hp => ?_⟩, e4⟩, rfl⟩, e5⟩
  have c0 := e3 0 (by omega)
  rw [List.getElem?_eq_getElem (by omega)] at c0
  exact ⟨g, off, rfl, World.block_lt_of_cell? w ⟨g, off + 0, none⟩ c0, fun h => h, fun j hj => e3 j (by omega)⟩
end Go.Proofs.Ytamgmkeoaaaliaa
