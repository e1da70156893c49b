/- A slice of triples (bytes, a spot) as an argument. -/
import Derived.Test.YtpapfkihjhhjkaaGreatOpc
set_option linter.unusedSimpArgs false
set_option linter.unusedVariables false
namespace Go.Proofs.YtpapfkihjhhjkaaGreat
open Go.ChangeShapes Go.WideShapes Go.ChangeAt Go.RowKit FdP FdP.Ch
@[reducible] def onA (e : List Int × List Int × Int) : AV := .agg [.isl .u8 e.1, .isl .u8 e.2.1, .int .i64 e.2.2]
def Sv3 (w : World) (v : Value) (es : List (List Int × List Int × Int)) : Prop := valR0 ⟨w, fun _ => False⟩ (.sl 3 (es.map onA)) v ∧ v.oneCell' = true
theorem ok_const {env : List Value} {v : Value} (h : v.oneCell' = true) : Leaf.OK env [] (.atom (.const v)) := h
theorem cellsRs_push3 {β : Base} {a : AV} {c : List Value} (hc : c.length = 3) (ha : cellsR β a c) : ∀ (l : List AV) (xs : List Value), cellsRs β (some 3) l xs → cellsRs β (some 3) (l ++ [a]) (xs ++ c)
 | [], xs, h => by
  obtain rfl : xs = [] := h
  exact ⟨c, [], (List.append_nil _).symm ▸ rfl, fun n hn => by cases hn; exact hc, ha, rfl⟩
 | b :: l, xs, ⟨p, q, e, hp, hb, hq⟩ => by
  subst e
  exact ⟨p, q ++ c, by rw [List.append_assoc], hp, hb, cellsRs_push3 hc ha l q hq⟩
theorem bv_cell {w : World} {v : Value} {b : List Int} (h : Bv w v b) : cellsR ⟨w, fun _ => False⟩ (.isl .u8 b) [v] := by
 have h' := bv_val h
 unfold valR0 at h'
 rw [if_neg (by simp [AV.isAgg])] at h'
 exact h'
theorem onA_cells {w : World} {v v' : Value} {a b : List Int} {n : Int} (h : Bv w v a) (h' : Bv w v' b) : cellsR ⟨w, fun _ => False⟩ (onA (a, b, n)) [v, v', .int .i64 n] :=
 ⟨[v], [v', .int .i64 n], rfl, (fun m hm => by cases hm), bv_cell h, [v'], [.int .i64 n], rfl, (fun m hm => by cases hm), bv_cell h', [.int .i64 n], [], rfl, (fun m hm => by cases hm), rfl, rfl⟩
theorem cells_one12 : Tryz.prog.cellsOf 50 = 3 := by kernel_rfl
set_option maxRecDepth 10000 in
theorem open_oneL {H : Type} {enc : TypeId × Value → H} {w : World} {base : Nat} {spare : Nat → Bool} {held : Bool} {cs : List Value} {fuel : Nat} {x : DataW H × List MemPlace} (hsz : cs.length = 3)
 (hf : DataW.trod enc Tryz.prog w base spare held fuel 50 cs = some x) :
 ∃ (v : Value) (a : List Int) (v' : Value) (b : List Int) (n : Int), cs = [v, v', .int .i64 n] ∧ Bv w v a ∧ By a ∧ Bv w v' b ∧ By b ∧ I64 n := by
 obtain ⟨xs, m, _, _, _, hxl, hx⟩ := DataW.trod_struct Tryz.underlying50 hf
 have hxl2 : xs.length = 2 := hxl
 have h0 : DataW.trod enc Tryz.prog w base spare held m 22 ((cs.drop 0).take (Tryz.prog.cellsOf 22)) = xs[0]? := hx 0 _ rfl
 have h1 : DataW.trod enc Tryz.prog w base spare held m 24 ((cs.drop 1).take (Tryz.prog.cellsOf 24)) = xs[1]? := hx 1 _ rfl
 rw [List.getElem?_eq_getElem (by omega), cells_bytesL] at h0
 rw [List.getElem?_eq_getElem (by omega), cells_spot11] at h1
 obtain ⟨v, a, hv, ha, hya⟩ := open_bytesL h0
 obtain ⟨v', b, n, hs, hb, hyb, hn⟩ := open_spotL (by rw [List.length_take, List.length_drop]; omega) h1
 refine ⟨v, a, v', b, n, ?_, ha, hya, hb, hyb, hn⟩
 match cs, hsz with
 | [p, q, r], _ =>
  simp only [List.drop_zero, List.drop_succ_cons, List.take_succ_cons, List.take_zero, List.cons.injEq, and_true] at hv hs
  obtain ⟨h1, h2⟩ := hs
  rw [hv, h1, h2]
set_option maxRecDepth 10000 in
theorem open_ones {H : Type} {enc : TypeId × Value → H} {w : World} {base b0 : Nat} {spare : Nat → Bool} {held : Bool} {v : Value} {d : DataW H} {p : List MemPlace}
 (hok : Value.okWide Tryz.prog w .any b0 46 v) (h : DataW.Trod enc Tryz.prog w base spare held 46 v d p) :
 ∃ es : List (List Int × List Int × Int), Sv3 w v es ∧ ∀ e ∈ es, By e.1 ∧ By e.2.1 ∧ I64 e.2.2 := by
 obtain ⟨a0, len0, cap0, rfl⟩ := Go.WideShapes.okWide_slice Tryz.underlying46 hok
 obtain ⟨fuel, hf⟩ := h
 rcases DataW.trod_slice Tryz.underlying46 hf with ⟨hcs, _⟩ | ⟨a, len, cap, elems, rest, n, _, hcs, _, hb, hl, hm, hlen, hel, _, _⟩
 ·simp [Value.cells] at hcs
  obtain ⟨rfl, rfl, rfl⟩ := hcs
  exact ⟨[], ⟨valR0.mk1 rfl ⟨_, [], rfl, ⟨none, 0, rfl, Nat.le_refl _, rfl, fun h => absurd h (by simp)⟩, rfl⟩, rfl⟩, fun x hx => by cases hx⟩
 simp [Value.cells] at hcs
 obtain ⟨rfl, rfl, rfl⟩ := hcs
 have each : ∀ i, i < len0 → ∃ (u : Value) (a' : List Int) (u' : Value) (b : List Int) (k : Int), (Bv w u a' ∧ By a' ∧ Bv w u' b) ∧ By b ∧ I64 k ∧ w.cell? ((a.add (i * 3)).add 0) = some u ∧ w.cell? ((a.add (i * 3)).add 1) = some u' ∧ w.cell? ((a.add (i * 3)).add 2) = some (.int .i64 k) := by
  intro i hi
  have h1 := hel i hi
  rw [List.getElem?_eq_getElem (by omega), cells_one12] at h1
  obtain ⟨cs', hc1, hc2⟩ := Option.bind_eq_some_iff.1 h1
  obtain ⟨_, hcl, hcc⟩ := World.cells?_some hc1
  obtain ⟨u, a', u', b, k, e, k1, k1', k4, k2, k3⟩ := open_oneL hcl hc2
  subst e
  exact ⟨u, a', u', b, k, ⟨k1, k1', k4⟩, k2, k3, hcc 0 (by omega), hcc 1 (by omega), hcc 2 (by omega)⟩
 by_cases h0 : len0 = 0
 ·subst h0
  exact ⟨[], ⟨valR0.mk1 rfl ⟨_, [], rfl, ⟨some a, cap0, rfl, Nat.zero_le _, rfl, fun h => absurd h (by simp)⟩, rfl⟩, rfl⟩, fun x hx => by cases hx⟩
 have ha : ∃ g off, a = ⟨g, off, none⟩ := by
  obtain ⟨u, a', u', b, k, _, _, _, hc, _⟩ := each 0 (by omega)
  obtain ⟨g, off, spot⟩ := a
  have hs : spot = none := by simpa [Addr.add] using World.cell?_spot hc
  subst hs
  exact ⟨g, off, rfl⟩
 obtain ⟨g, off, rfl⟩ := ha
 have build : ∀ k, k ≤ len0 → ∃ (es : List (List Int × List Int × Int)) (xs : List Value), es.length = k ∧ xs.length = k * 3 ∧ (∀ j, j < k * 3 → w.cell? ⟨g, off + j, none⟩ = xs[j]?) ∧ cellsRs ⟨w, fun _ => False⟩ (some 3) (es.map onA) xs ∧ ∀ e ∈ es, By e.1 ∧ By e.2.1 ∧ I64 e.2.2 := by
  intro k
  induction k with
  | zero => intro _; exact ⟨[], [], rfl, rfl, fun j hj => by omega, rfl, fun x hx => by cases hx⟩
  | succ k ih =>
   intro hk
   obtain ⟨es, xs, e1, e2, e3, e4, e5⟩ := ih (by omega)
   obtain ⟨u, a', u', b, m, ⟨k1, k1', k4⟩, k2, k3, c0, c1, c2⟩ := each k (by omega)
   rw [add_plain, add_plain] at c0 c1 c2
   refine ⟨es ++ [(a', b, m)], xs ++ [u, u', .int .i64 m], by simp [e1], by simp [e2]; omega, fun j hj => ?_, ?_, ?_⟩
   ·by_cases hj1 : j < k * 3
    ·rw [List.getElem?_append_left (by omega)]; exact e3 j hj1
    ·rw [List.getElem?_append_right (by omega), e2]
     rcases (by omega : j = k * 3 ∨ j = k * 3 + 1 ∨ j = k * 3 + 2) with rfl | rfl | rfl
     ·rw [Nat.sub_self]; exact c0
     ·rw [show k * 3 + 1 - k * 3 = 1 by omega, ← Nat.add_assoc]; exact c1
     ·rw [show k * 3 + 2 - k * 3 = 2 by omega, ← Nat.add_assoc]; exact c2
   ·rw [List.map_append]; exact cellsRs_push3 rfl (onA_cells k1 k4) _ _ e4
   ·intro e he
    rcases List.mem_append.1 he with he | he
    ·exact e5 e he
    ·obtain rfl := List.mem_singleton.1 he
     exact ⟨k1', k2, k3⟩
 obtain ⟨es, xs, e1, e2, e3, e4, e5⟩ := build len0 (Nat.le_refl _)
 refine ⟨es, ⟨valR0.mk1 rfl ⟨_, xs, rfl, ⟨some ⟨g, off, none⟩, cap0, by rw [List.length_map, e1], by rw [List.length_map, e1]; exact hl, by rw [List.length_map, e1]; exact e2, fun hp => ?_⟩, e4⟩, rfl⟩, e5⟩
 have c0 := e3 0 (by omega)
 rw [List.getElem?_eq_getElem (by omega)] at c0
 exact ⟨g, off, rfl, World.block_lt_of_cell? w ⟨g, off + 0, none⟩ c0, fun h => h, fun j hj => e3 j (by omega)⟩
end Go.Proofs.YtpapfkihjhhjkaaGreat
