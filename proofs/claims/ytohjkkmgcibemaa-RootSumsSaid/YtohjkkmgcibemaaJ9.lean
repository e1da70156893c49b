/- joined: Refc Refd Lwa -/
import Derived.Test.YtohjkkmgcibemaaJ8
import Derived.Laws.Small
set_option linter.unusedSimpArgs false
set_option linter.unusedVariables false
/- the document's answer: of bytes, bytes of, the same, over trees. WRITTEN BY gen_refc.py -/
namespace Go.Proofs.Ytohjkkmgcibemaa
open Go.RowKit FdP FdP.Ch

theorem tlF : Try.prog.underlying 52 = some (.slice 5) ∧ tyN Try.prog 5 = some 1 ∧ tyAgg Try.prog 5 = some false := by refine ⟨?_, ?_, ?_⟩ <;> kernel_rfl
theorem tlS : tySlc Try.prog 52 = some 5 := by unfold tySlc; rw [tlF.1]
theorem tlU : Try.prog.underlying 5 = some (.int .u8) ∧ Try.prog.underlying 3 = some (.int .i64) := by refine ⟨?_, ?_⟩ <;> kernel_rfl
theorem bval_bd {b : List Int} (h : By b) : 0 ≤ bval b ∧ bval b < 256 ^ b.length := by
 induction b with
 | nil => simp [bval]
 | cons x b ih =>
  have h1 := h x (by simp)
  have h2 := ih fun y hy => h y (by simp [hy])
  simp only [bval, List.length_cons, Int.pow_succ]
  generalize (256 : Int) ^ b.length = q at *
  omega
theorem By.take {b : List Int} (h : By b) (k : Nat) : By (b.take k) := fun x hx => h x (List.mem_of_mem_take hx)
theorem By.drop {b : List Int} (h : By b) (k : Nat) : By (b.drop k) := fun x hx => h x (List.mem_of_mem_drop hx)
structure Od (b : List Int) (i : Nat) (l : List Int) : Prop where
 len : l.length = 16
 val : v28 (l.take (2 * i)) = bval (b.take (7 * i))
 bd : ∀ j, 0 ≤ l.getD j 0 ∧ l.getD j 0 ≤ 268435456
theorem Od.start (b : List Int) : Od b 0 (List.replicate 16 0) := by
 refine ⟨rfl, by simp [v28, bval], fun j => ?_⟩
 have : (List.replicate 16 (0 : Int)).getD j 0 = 0 := by
  simp only [List.getD, List.getElem?_replicate]
  split <;> rfl
 rw [this]; omega
theorem Od.step {b l : List Int} {i : Nat} (h : Od b i l) (lb : b.length = 56) (yb : By b) (hi : i < 8) {n : Int} (hn : n = bval ((b.drop (7 * i)).take 7)) :
 Od b (i + 1) ((l.set (2 * i) (n % 268435456)).set (2 * i + 1) (n / 268435456)) := by
 have hl := h.len
 have hb := bval_bd ((yb.drop (7 * i)).take 7)
 have l7 : ((b.drop (7 * i)).take 7).length = 7 := by simp; omega
 rw [l7, ← hn] at hb
 refine ⟨by simp [hl], ?_, fun j => ?_⟩
 ·have e1 : ((l.set (2 * i) (n % 268435456)).set (2 * i + 1) (n / 268435456)).getD (2 * i) 0 = n % 268435456 := by rw [getD_set_nee (by omega), getD_set_eq (by omega)]
  have e2 : ((l.set (2 * i) (n % 268435456)).set (2 * i + 1) (n / 268435456)).getD (2 * i + 1) 0 = n / 268435456 := by rw [getD_set_eq (by simp; omega)]
  have e0 : ((l.set (2 * i) (n % 268435456)).set (2 * i + 1) (n / 268435456)).take (2 * i) = l.take (2 * i) := by rw [List.take_set_of_le (by omega), List.take_set_of_le (by omega)]
  rw [show 2 * (i + 1) = 2 * i + 1 + 1 by omega, v28_take, v28_take, e0, e1, e2, h.val]
  have e3 : b.take (7 * (i + 1)) = b.take (7 * i) ++ (b.drop (7 * i)).take 7 := by rw [show 7 * (i + 1) = 7 * i + 7 by omega, List.take_add]
  rw [e3, bval_app, ← hn]
  have e4 : (b.take (7 * i)).length = 7 * i := by simp; omega
  rw [e4, pow56, show 2 * i + 1 = 2 * i + 1 by rfl, Int.pow_succ]
  have e5 : (268435456 : Int) ^ (2 * i) = 72057594037927936 ^ i := by rw [Int.pow_mul]; rfl
  rw [e5]
  generalize bval (b.take (7 * i)) = u
  generalize (72057594037927936 : Int) ^ i = s
  have e6 := Int.emod_add_mul_ediv n 268435456
  generalize n % 268435456 = p at *
  generalize n / 268435456 = q at *
  subst e6
  clear hn e1 e2 hb
  grind
 ·have hj := h.bd j
  have m1 := Int.emod_nonneg n (show (268435456 : Int) ≠ 0 by omega)
  have m2 := Int.emod_lt_of_pos n (show (0 : Int) < 268435456 by omega)
  have m3 : n / 268435456 ≤ 268435456 := by omega
  have m4 : 0 ≤ n / 268435456 := by omega
  by_cases h1 : 2 * i + 1 = j
  ·subst h1; rw [getD_set_eq (by simp; omega)]; omega
  ·rw [getD_set_nee h1]
   by_cases h2 : 2 * i = j
   ·subst h2; rw [getD_set_eq (by omega)]; omega
   ·rw [getD_set_nee h2]; exact hj
theorem Rd.kept {w W : World} {g off : Nat} {b : List Int} (h : Rd w g off b) (hb : Below w.heap.size w W) : Rd W g off b := h.below hb
def OutB (xs : List Int) (W : World) (e : Ending) (w' : World) : Prop := ∃ v, e = .returned v ∧ Sl W w' v xs ∧ Below W.heap.size W w'
end Go.Proofs.Ytohjkkmgcibemaa
/- bytes that a call makes; the statements' helpers Is, Plain; the document's p, Fits: over trees. WRITTEN BY gen_refd.py -/
namespace Go.Proofs.Ytohjkkmgcibemaa
open Go.RowKit FdP FdP.Ch

section
variable {w0 : World} {R : Ending → World → Prop} {L : List (List Value → Prop)} {env : List Value} {gs : List Nat}
theorem tw_B {f : FuncId} {args : List Leaf} {bl : Mem} {k : Tree} {m B : Nat} (xs : List Int)
 (hc : ∀ W, Mm w0 W env gs bl → Calls Try.prog f (args.map (Leaf.den env gs)).toArray W (OutB xs W))
 (hm : env.length = m) (hg : gs.length = B)
 (hk : ∀ g cap sp, TWp Try.prog w0 R k L (env ++ [.slice none xs.length cap, AG (ys xs), AG sp]) (gs ++ [g])) :
 TWp Try.prog w0 R (.call f args bl (.leaf (.atom (.slcx B 0 m))) 3 [([.rest (m + 1), .junk (m + 2)], 5)] k) L env gs := by
 subst hm; subst hg
 intro β W hW _
 refine (hc W hW).mono fun e w' ⟨v, he, ⟨g, cap, sp, hv, hg, ho⟩, hF⟩ => ?_
 refine ⟨[.slice none xs.length cap, AG (ys xs), AG sp], [g], rfl, rfl, ?_, ?_, ?_, hF, ?_, hk g cap sp _⟩
 ·rw [he, hv]; simp [SV.den, Leaf.den, Atom.den, List.getD]
 ·exact ⟨by simp, by simp⟩
 ·intro b hb s hs
  simp only [List.mem_singleton] at hb; subst hb
  simp only [List.mem_cons, List.not_mem_nil, or_false] at hs
  rcases hs with rfl | rfl
  ·exact ⟨xs.length, ys xs, by simp [AG], by simp [ys], ys_one _⟩
  ·exact ⟨sp, by simp [AG]⟩
 ·refine ⟨?_, by simp [bsA]⟩
  intro x hx
  simp only [bsA, List.zipWith_cons_cons, List.zipWith_nil_left, List.mem_singleton] at hx; subst hx
  refine ⟨hg, ?_⟩
  simpa [catS, Seg.den, cellsAt, AG, Value.cells, List.getD] using ho
theorem Mm.rd {W : World} {bl : Mem} (h : Mm w0 W env gs bl) (j g : Nat) (xs : List Int) (sp : List Value) (T : TypeId) (hb : (bsD env gs bl.1)[j]? = some (g, ys xs ++ sp, T)) : Rd W g 0 xs := (h.1.own _ (List.mem_of_getElem? hb)).2.rd
theorem Mm.sl {W : World} {bl : Mem} (h : Mm w0 W env gs bl) (j g cap : Nat) (xs : List Int) (sp : List Value) (hb : (bsD env gs bl.1)[j]? = some (g, ys xs ++ sp, 5)) : Sl w0 W (.slice (some ⟨g, 0, none⟩) xs.length cap) xs :=
 ⟨g, cap, sp, rfl, (h.1.own _ (List.mem_of_getElem? hb)).1, (h.1.own _ (List.mem_of_getElem? hb)).2⟩
end
end Go.Proofs.Ytohjkkmgcibemaa
/- contracts of chapter 4 as steps of a tree -/
namespace Go.Proofs.Ytohjkkmgcibemaa
open Go.RowKit FdP FdP.Ch

section
variable {w0 : World} {R : Ending → World → Prop} {L : List (List Value → Prop)} {env : List Value} {gs : List Nat}
theorem tw_EC {f : FuncId} {args : List Leaf} {bl : Mem} {k : Tree} {m : Nat} {v : Value} (x : F)
 (hc : ∀ W, Mm w0 W env gs bl → Calls Try.prog f (args.map (Leaf.den env gs)).toArray W fun e w' => ∃ l, e = .returned (.tuple #[AG (us l), v]) ∧ E l x ∧ Fut W w')
 (hm : env.length = m) (h1 : v.oneCell' = true) (hk : ∀ l, E l x → TWp Try.prog w0 R k L (env ++ [AG (us l)]) gs) :
 TWp Try.prog w0 R (.call f args bl (.tup [.agg [.whole m 8], .atom (.const v)]) 1 [] k) L env gs := by
 refine tw_call _ hc fun W e w' ⟨l, he, hE, hF⟩ => ⟨[AG (us l)], rfl, ?_, ?_, hF, hk l hE⟩
 ·rw [he]; simp only [SV.den, Leaf.den, catS, Seg.den, AG, cells_new hm, List.map_cons, List.map_nil, Atom.den]
 ·intro x hx
  simp only [List.mem_cons, List.not_mem_nil, or_false] at hx
  rcases hx with rfl | rfl
  ·intro s hs; simp only [List.mem_singleton] at hs; subst hs; exact agg_new hm (by simp [hE.len]) (us_one l)
  ·exact h1
end

theorem made_c (b : List Int) (lb : b.length = 56) (yb : By b) (W : World) : Calls Try.prog 11 #[AG (ys b)] W fun e w' => ∃ l, e = .returned (.tuple #[AG (us l), .bool true]) ∧ E l (z (bval b)) ∧ Fut W w' :=
 (made_any b lb W).mono fun e w' ⟨h1, h2⟩ => ⟨_, h1, of_E b lb yb, h2⟩
theorem mul_c {l m : List Int} {a b : F} (hl : E l a) (hm : E m b) (W : World) : Calls Try.prog 20 #[AG (us l), AG (us m)] W (OutE (a * b) W) := (mul_e hl hm W).mono fun _ _ ⟨h1, h2⟩ => ⟨_, h1, mul_E hl hm, h2⟩
theorem square_c {l : List Int} {a : F} (hl : E l a) (W : World) : Calls Try.prog 22 #[AG (us l)] W (OutE (a * a) W) := (square_e hl W).mono fun _ _ ⟨h1, h2⟩ => ⟨_, h1, mul_E hl hl, h2⟩
theorem neg_c {l : List Int} {a : F} (hl : E l a) (W : World) : Calls Try.prog 30 #[AG (us l)] W (OutE (-a) W) := (neg_e hl W).mono fun _ _ ⟨h1, h2⟩ => ⟨_, h1, neg_E hl, h2⟩
theorem int_c (n : Int) (h0 : -9223372036854775808 ≤ n) (h1 : n < 9223372036854775808) (W : World) : Calls Try.prog 29 #[.int .i64 n] W (OutE (z n) W) := (int_any n W).mono fun _ _ ⟨q1, q2⟩ => ⟨_, q1, int_E n h0 h1, q2⟩
theorem equal_c {l m : List Int} {a b : F} (hl : E l a) (hm : E m b) (W : World) : Calls Try.prog 21 #[AG (us l), AG (us m)] W (OutV (.bool (decide (a = b))) W) := equal_e hl hm _ rfl W
end Go.Proofs.Ytohjkkmgcibemaa
