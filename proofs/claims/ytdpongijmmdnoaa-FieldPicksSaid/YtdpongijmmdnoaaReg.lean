/- A region that draws its order, walked in one order: what reads only yields the same in every world that meets S; what makes memory comes up in a forced order. Over any program. -/
import Derived.Test.YtdpongijmmdnoaaMem
import Derived.Deep.RegionHeld
namespace Go.Proofs.Ytdpongijmmdnoaa
open Go.RowKit

section
variable {P : Program} {ops : Array Oper} {Q : Exit → Act → World → Prop} {S : World → Prop}

/-- the operations in one order: a quiet one (true) yields its value under S; another one is run, and S holds behind it -/
def RunOrd (P : Program) (ops : Array Oper) (Q : Exit → Act → World → Prop) (S : World → Prop) : List (Nat × Bool) → Act → World → Prop
  | [], a, w => Q .normal a w
  | (i, true) :: r, a, w => ∃ o v, ops[i]? = some o ∧ YieldsIf P ops S o v a ∧ RunOrd P ops Q S r (a.put o.dst v) w
  | (i, false) :: r, a, w => wpOp P ops Q i (fun a' w' => S w' ∧ RunOrd P ops Q S r a' w') a w

/-- each quiet one may come up and may be taken first; each other one comes up alone; all come up -/
def ordOk (ops : Array Oper) : List (Nat × Bool) → Array Bool → Bool
  | [], listed => (Region.ready .any ops listed).isEmpty
  | (i, true) :: r, listed => Region.free .any ops listed i && (Region.ready .any ops listed).contains i && ordOk ops r (listed.setIfInBounds i true)
  | (i, false) :: r, listed => (Region.ready .any ops listed == [i]) && ordOk ops r (listed.setIfInBounds i true)

theorem runOrd_sound (hs : Region.noSelect ops = true) (hQ : ∀ c a (d : Option Tmp) v w, Q (.panic c) (a.put d v) w → Q (.panic c) a w) :
    ∀ (ord : List (Nat × Bool)) (listed : Array Bool) (fuel : Nat) (a : Act) (w : World), ordOk ops ord listed = true → ord.length ≤ fuel → S w →
      RunOrd P ops Q S ord a w → wpAnyH P .any ops Q S fuel listed a w := by
  intro ord
  induction ord with
  | nil =>
    intro listed fuel a w hk _ _ h
    exact wpAnyH_done (by simpa [ordOk] using hk) h fuel
  | cons x r ih =>
    intro listed fuel a w hk hf hS h
    obtain ⟨i, q⟩ := x
    obtain ⟨fuel, rfl⟩ : ∃ f, fuel = f + 1 := ⟨fuel - 1, by simp at hf; omega⟩
    have hf' : r.length ≤ fuel := by simp at hf; omega
    cases q with
    | true =>
      obtain ⟨o, v, ho, hy, h⟩ := h
      simp only [ordOk, Bool.and_eq_true] at hk
      exact wpAnyH_take ho hs hk.1.1 hk.1.2 (fun c a w => hQ c a _ v w) hy hS (ih _ fuel _ w hk.2 hf' hS h)
    | false =>
      simp only [ordOk, Bool.and_eq_true, beq_iff_eq] at hk
      refine wpAnyH_all hk.1 (by simp) ?_
      intro j hj
      obtain rfl := List.mem_singleton.1 hj
      exact wpOp_mono (fun a' w' hh => ⟨hh.1, ih _ fuel a' w' hk.2 hf' hh.1 hh.2⟩) h

theorem wp_region_ord (ord : List (Nat × Bool)) (S : World → Prop) {id : Nat} {a : Act} {w : World} (hm : P.follows .mixedOrders = true) (hs : Region.noSelect ops = true)
    (hk : (ordOk ops ord (Array.replicate ops.size false) && decide (ord.length ≤ ops.size)) = true)
    (hQ : ∀ c a (d : Option Tmp) v w, Q (.panic c) (a.put d v) w → Q (.panic c) a w) (hS : S w.drew)
    (h : RunOrd P ops Q S ord a w.drew) : (Code.region id ops true).wp P Q a w := by
  simp only [Bool.and_eq_true, decide_eq_true_eq] at hk
  exact wp_region_held (S := S) hm (runOrd_sound hs hQ ord _ _ a w.drew hk.1 hk.2 hS h)

theorem runOrd_nil {a : Act} {w : World} (h : Q .normal a w) : RunOrd P ops Q S [] a w := h

theorem runOrd_quiet {i : Nat} {r : List (Nat × Bool)} {a : Act} {w : World} {o : Oper} {v : Value} (ho : ops[i]? = some o)
    (hw : Region.wanted o (yielded ops a.tmps) = true) (hy : ∀ w, S w → (execOp a.eval o).run P w = .ok (.value v) w)
    (h : RunOrd P ops Q S r (a.put o.dst v) w) : RunOrd P ops Q S ((i, true) :: r) a w := ⟨o, v, ho, .inl ⟨hw, hy⟩, h⟩

/-- not wanted: passed by -/
theorem runOrd_pass {i : Nat} {r : List (Nat × Bool)} {a : Act} {w : World} {o : Oper} (ho : ops[i]? = some o)
    (hw : Region.wanted o (yielded ops a.tmps) = false)
    (h : RunOrd P ops Q S r (a.put o.dst undef) w) : RunOrd P ops Q S ((i, true) :: r) a w := ⟨o, undef, ho, .inr ⟨hw, rfl⟩, h⟩

theorem runOrd_load {i : Nat} {r : List (Nat × Bool)} {a : Act} {w : World} {o : Oper} (ho : ops[i]? = some o)
    (hw : Region.wanted o (yielded ops a.tmps) = true) (ty : TypeId) (x : Operand) (hop : o.op = .load ty x) (g off : Nat)
    (hx : a.eval x = .pointer (some ⟨g, off, none⟩)) (n : Nat) (ha : AggSize P ty n) (cs : List Value) (t : TypeId) (v : Value) (hg : ∀ w, S w → Own w g cs t)
    (hle : off + n ≤ cs.length) (hv : v = .agg ((cs.drop off).take n).toArray)
    (h : RunOrd P ops Q S r (a.put o.dst v) w) : RunOrd P ops Q S ((i, true) :: r) a w :=
  runOrd_quiet ho hw (fun w' hS => by
    unfold execOp
    simp only [hop, hx, Instr.loadAt, Instr.sureAddr, Sem.run_bind, Sem.run_pure, Result.andThen_ok, run_loadVar_own w' g off t ty cs n (hg w' hS) ha hle]
    rw [← hv]) h

/-- what is not quiet: run, and S behind it -/
theorem runOrd_run {i : Nat} {r : List (Nat × Bool)} {a : Act} {w : World} {o : Oper} (ho : ops[i]? = some o)
    (hw : Region.wanted o (yielded ops a.tmps) = true)
    (h : ∀ K : Act → World → Prop, Hid (∀ a w, S w → RunOrd P ops Q S r a w → K a w) → o.wp P a w K Q) : RunOrd P ops Q S ((i, false) :: r) a w := by
  show wpOp P ops Q i _ a w
  unfold wpOp
  simp only [ho, hw, if_true]
  exact .inl (h _ (fun a w hS hr => ⟨hS, hr⟩))

theorem runOrd_skip {i : Nat} {r : List (Nat × Bool)} {a : Act} {w : World} {o : Oper} (ho : ops[i]? = some o)
    (hw : Region.wanted o (yielded ops a.tmps) = false) (hS : S w)
    (h : RunOrd P ops Q S r (a.put o.dst undef) w) : RunOrd P ops Q S ((i, false) :: r) a w := by
  show wpOp P ops Q i _ a w
  unfold wpOp
  simp only [ho, hw]
  exact ⟨hS, h⟩

theorem runOrd_store {i : Nat} {r : List (Nat × Bool)} {a : Act} {w : World} {o : Oper} (ho : ops[i]? = some o)
    (hw : Region.wanted o (yielded ops a.tmps) = true) (ty : TypeId) (x y : Operand) (hop : o.op = .store ty x y) (g off : Nat)
    (hx : a.eval x = .pointer (some ⟨g, off, none⟩)) (vs : List Value) (hv : (a.eval y).cells = vs.toArray) (n : Nat) (hi : SizeIs P ty n) (hn : vs.length = n)
    (cs : List Value) (t : TypeId) (hg : Own w g cs t)
    (hle : off + vs.length ≤ cs.length) (h1 : ∀ x ∈ vs, x.oneCell' = true)
    (h : ∀ w1, Own w1 g (cs.take off ++ vs ++ cs.drop (off + vs.length)) t → Wrote g w w1 → S w1 ∧ RunOrd P ops Q S r (a.put o.dst undef) w1) :
    RunOrd P ops Q S ((i, false) :: r) a w := by
  refine runOrd_run ho hw fun K hK => ?_
  unfold Oper.wp execOp
  simp only [hop, hx, Instr.storeAt, Instr.sureAddr, Sem.run_bind, Sem.run_pure, Result.andThen_ok, run_storeVar_own w g off t ty cs _ vs hg hv (hn ▸ hi) hle h1]
  obtain ⟨h2, h3⟩ := h _ (hg.setRow (cs.take off ++ vs ++ cs.drop (off + vs.length))) ⟨rfl, rfl, rfl, by simp, fun k hk => Go.setRow_other w g k _ hk⟩
  exact hK.out _ _ h2 h3

end

/-- but for the blocks of D what was there below B is as it was -/
structure Keep (D : Nat → Prop) (B : Nat) (w w' : World) : Prop where
  os : w'.os = w.os
  tape : w'.tape = w.tape
  output : w'.output = w.output
  size : w.heap.size ≤ w'.heap.size
  block : ∀ k, k < B → ¬ D k → w'.heap[k]? = w.heap[k]?

theorem Keep.of_below {D : Nat → Prop} {B : Nat} {w w' : World} (h : Below B w w') : Keep D B w w' := ⟨h.os, h.tape, h.output, h.size, fun k hk _ => h.block k hk⟩
theorem Keep.trans {D : Nat → Prop} {B : Nat} {a b c : World} (h : Keep D B a b) (k : Keep D B b c) : Keep D B a c :=
  ⟨k.os.trans h.os, k.tape.trans h.tape, k.output.trans h.output, Nat.le_trans h.size k.size, fun i hi hd => (k.block i hi hd).trans (h.block i hi hd)⟩
theorem Keep.wrote {D : Nat → Prop} {B g : Nat} {w0 w w1 : World} (h : Keep D B w0 w) (hw : Wrote g w w1) (hg : D g) : Keep D B w0 w1 :=
  h.trans ⟨hw.os, hw.tape, hw.output, Nat.le_of_eq hw.size.symm, fun k _ hd => hw.block k (fun e => hd (e ▸ hg))⟩
theorem Own.keep {D : Nat → Prop} {B : Nat} {w w' : World} {b : Nat} {xs : List Value} {T : TypeId} (h : Own w b xs T) (hb : Keep D B w w') (hB : b < B) (hd : ¬ D b) : Own w' b xs T := by
  unfold Own; rw [hb.block b hB hd]; exact h
theorem Keep.below {D : Nat → Prop} {B B' : Nat} {w w' : World} (h : Keep D B w w') (hB : B' ≤ B) (hd : ∀ k, D k → B' ≤ k) : Below B' w w' :=
  ⟨h.os, h.tape, h.output, h.size, fun k hk => h.block k (by omega) (fun e => by have := hd k e; omega)⟩

end Go.Proofs.Ytdpongijmmdnoaa
