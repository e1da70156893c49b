/- Blocks of the call's own, told whole: what a block holds ('Own'), and what loads, stores and new blocks make of it. Over any program. -/
import Derived.WalkKit
import Derived.WalkLawsBesides
import Derived.WalkSpells
namespace Go.Proofs.Ytdpongijmmdnoaa
open Go.RowKit

/-- a fact, laid aside -/
theorem hide {p : Prop} (h : p) : Hid p := h

/-- block b is a row of the cells xs, of element type T; none is frozen -/
def Own (w : World) (b : Nat) (xs : List Value) (T : TypeId) : Prop := w.heap[b]? = some (.cells xs.toArray T (0, 0))

theorem Own.lt {w : World} {b : Nat} {xs : List Value} {T : TypeId} (h : Own w b xs T) : b < w.heap.size := by
  by_cases hlt : b < w.heap.size
  · exact hlt
  · unfold Own at h; rw [Array.getElem?_eq_none (by omega)] at h; cases h

theorem Own.cell {w : World} {b : Nat} {xs : List Value} {T : TypeId} (h : Own w b xs T) (i : Nat) (hi : i < xs.length) :
    w.cell? ⟨b, i, none⟩ = some (xs.getD i undef) := by
  rw [cell_of_row w b i _ T (0, 0) h]; simp [List.getD, List.getElem?_eq_getElem hi]

theorem Own.cell_of {w : World} {b : Nat} {xs : List Value} {T : TypeId} (h : Own w b xs T) (i : Nat) {v : Value} (hi : xs[i]? = some v) :
    w.cell? ⟨b, i, none⟩ = some v := by
  rw [cell_of_row w b i _ T (0, 0) h]; simpa using hi

theorem Own.free {w : World} {b : Nat} {xs : List Value} {T : TypeId} (h : Own w b xs T) (i : Nat) : w.frozen? ⟨b, i, none⟩ = false :=
  frozen_of_row w b i _ T h

theorem Own.set {w : World} {b : Nat} {xs : List Value} {T : TypeId} (h : Own w b xs T) (i : Nat) (v : Value) : Own (w.setCell ⟨b, i, none⟩ v) b (xs.set i v) T := by
  have := heap_setCell_same w b i _ T v h
  unfold Own; rw [this]; simp

theorem Own.set_other {w : World} {b : Nat} {xs : List Value} {T : TypeId} (h : Own w b xs T) (a : Addr) (v : Value) (ha : b ≠ a.block) : Own (w.setCell a v) b xs T := by
  have := heap_setCell_other w a b v ha
  unfold Own; rw [this]; exact h

theorem Own.alloc {w : World} {b : Nat} {xs : List Value} {T : TypeId} (h : Own w b xs T) (o : Obj) : Own (w.alloc o) b xs T := by
  unfold Own; rw [Below.heap_alloc w o b h.lt]; exact h

theorem Own.drew {w : World} {b : Nat} {xs : List Value} {T : TypeId} (h : Own w b xs T) : Own w.drew b xs T := h

theorem Own.drewN {w : World} {b : Nat} {xs : List Value} {T : TypeId} (h : Own w b xs T) (n : Nat) : Own (w.drewN n) b xs T := h

theorem Own.new (w : World) (xs : List Value) (T : TypeId) : Own (w.alloc (.cells xs.toArray T (0, 0))) w.heap.size xs T := heap_alloc_new w _

theorem Own.below {B : Nat} {w w' : World} {b : Nat} {xs : List Value} {T : TypeId} (h : Own w b xs T) (hb : Below B w w') (hB : b < B) : Own w' b xs T := by
  unfold Own; rw [hb.block b hB]; exact h

theorem Own.setRow {w : World} {b : Nat} {xs : List Value} {T : TypeId} (h : Own w b xs T) (ys : List Value) : Own (w.setRow b ys.toArray) b ys T :=
  setRow_heap w b _ _ T (0, 0) h

theorem Own.setRow_other {w : World} {b : Nat} {xs : List Value} {T : TypeId} (h : Own w b xs T) (g : Nat) (cs : Array Value) (hg : b ≠ g) : Own (w.setRow g cs) b xs T := by
  unfold Own; rw [Go.setRow_other w g b cs hg]; exact h

theorem Below.drewN {B : Nat} {a w : World} (h : Below B a w) (n : Nat) : Below B a (w.drewN n) := ⟨h.os, h.tape, h.output, h.size, h.block⟩

theorem Below.setRow {B g : Nat} {w0 w : World} (hb : Below B w0 w) (hBg : B ≤ g) (cs : Array Value) : Below B w0 (w.setRow g cs) :=
  hb.trans ⟨rfl, rfl, rfl, by simp, fun k hk => Go.setRow_other w g k cs (by omega)⟩

/-- a struct or an array of these cells -/
def AG (c : List Value) : Value := .agg c.toArray

/-- words of 64 bits -/
def us (l : List Int) : List Value := l.map (Value.int .u64)
/-- ints -/
def is (l : List Int) : List Value := l.map (Value.int .i64)
/-- bytes -/
def ys (l : List Int) : List Value := l.map (Value.int .u8)
@[simp] theorem us_len (l : List Int) : (us l).length = l.length := by simp [us]
@[simp] theorem is_len (l : List Int) : (is l).length = l.length := by simp [is]
@[simp] theorem ys_len (l : List Int) : (ys l).length = l.length := by simp [ys]
theorem us_one (l : List Int) : ∀ x ∈ us l, x.oneCell' = true := by intro x hx; simp only [us, List.mem_map] at hx; obtain ⟨y, _, rfl⟩ := hx; rfl
theorem is_one (l : List Int) : ∀ x ∈ is l, x.oneCell' = true := by intro x hx; simp only [is, List.mem_map] at hx; obtain ⟨y, _, rfl⟩ := hx; rfl
theorem ys_one (l : List Int) : ∀ x ∈ ys l, x.oneCell' = true := by intro x hx; simp only [ys, List.mem_map] at hx; obtain ⟨y, _, rfl⟩ := hx; rfl
theorem one_app {a b : List Value} (ha : ∀ x ∈ a, x.oneCell' = true) (hb : ∀ x ∈ b, x.oneCell' = true) : ∀ x ∈ a ++ b, x.oneCell' = true := by
  intro x hx; rcases List.mem_append.1 hx with h | h; exact ha x h; exact hb x h
theorem us_get (l : List Int) (i : Nat) (h : i < l.length) : (us l)[i]? = some (.int .u64 (l.getD i 0)) := by simp [us, List.getD, h]
theorem is_get (l : List Int) (i : Nat) (h : i < l.length) : (is l)[i]? = some (.int .i64 (l.getD i 0)) := by simp [is, List.getD, h]
theorem ys_get (l : List Int) (i : Nat) (h : i < l.length) : (ys l)[i]? = some (.int .u8 (l.getD i 0)) := by simp [ys, List.getD, h]

/-- a type of so many cells that is a struct or an array -/
def AggSize (P : Program) (ty : TypeId) (n : Nat) : Prop :=
  ∃ d, P.underlying ty = some d ∧ (match d with | .struct _ | .array _ _ => true | _ => false) = true ∧ (P.info? ty).map (·.size) = some n

/-- a type of so many cells -/
def SizeIs (P : Program) (ty : TypeId) (n : Nat) : Prop := (P.info? ty).map (·.size) = some n
theorem AggSize.size {P : Program} {ty : TypeId} {n : Nat} (h : AggSize P ty n) : SizeIs P ty n := by obtain ⟨_, _, _, h⟩ := h; exact h

/-- the zero value of a type has these cells -/
def ZeroIs (P : Program) (ty : TypeId) (vs : List Value) : Prop := ∃ v : Value, v.cells = vs.toArray ∧ ∀ W : World, (zeroValue ty).run P W = .ok v W
theorem ZeroIs.agg {P : Program} {ty : TypeId} {vs : List Value} (h : ∀ W : World, (zeroValue ty).run P W = .ok (.agg vs.toArray) W) : ZeroIs P ty vs := ⟨_, rfl, h⟩
theorem ZeroIs.one {P : Program} {ty : TypeId} {v : Value} (hv : v.cells = #[v]) (h : ∀ W : World, (zeroValue ty).run P W = .ok v W) : ZeroIs P ty [v] := ⟨_, hv, h⟩

/-- w1 is w, but for what stands in block g -/
structure Wrote (g : Nat) (w w1 : World) : Prop where
  os : w1.os = w.os
  tape : w1.tape = w.tape
  output : w1.output = w.output
  size : w1.heap.size = w.heap.size
  block : ∀ k, k ≠ g → w1.heap[k]? = w.heap[k]?

theorem Wrote.below {B g : Nat} {w0 w w1 : World} (h : Wrote g w w1) (hb : Below B w0 w) (hB : B ≤ g) : Below B w0 w1 :=
  hb.trans ⟨h.os, h.tape, h.output, Nat.le_of_eq h.size.symm, fun k hk => h.block k (by omega)⟩

theorem Own.wrote {g : Nat} {w w1 : World} {b : Nat} {xs : List Value} {T : TypeId} (h : Own w b xs T) (hw : Wrote g w w1) (hg : b ≠ g) : Own w1 b xs T := by
  unfold Own; rw [hw.block b hg]; exact h

/-- w1 is w and a new block, the one after all -/
structure Newer (w w1 : World) : Prop where
  os : w1.os = w.os
  tape : w1.tape = w.tape
  output : w1.output = w.output
  size : w1.heap.size = w.heap.size + 1
  block : ∀ k, k < w.heap.size → w1.heap[k]? = w.heap[k]?

theorem Newer.below {B : Nat} {w0 w w1 : World} (h : Newer w w1) (hb : Below B w0 w) (hB : B ≤ w.heap.size) : Below B w0 w1 :=
  hb.trans ⟨h.os, h.tape, h.output, by have := h.size; omega, fun k hk => h.block k (by omega)⟩

theorem Own.newer {w w1 : World} {b : Nat} {xs : List Value} {T : TypeId} (h : Own w b xs T) (hw : Newer w w1) : Own w1 b xs T := by
  unfold Own; rw [hw.block b h.lt]; exact h

theorem newer_alloc (w : World) (o : Obj) : Newer w (w.alloc o) := ⟨rfl, rfl, rfl, by simp, fun k hk => Below.heap_alloc w o k hk⟩

section
variable {P : Program}

theorem addr_add (g o i : Nat) : (⟨g, o, none⟩ : Addr).add i = ⟨g, o + i, none⟩ := by unfold Addr.add; split <;> simp_all

theorem run_loadVar_own (w : World) (g off : Nat) (t ty : TypeId) (cs : List Value) (n : Nat) (hg : Own w g cs t) (ha : AggSize P ty n)
    (hle : off + n ≤ cs.length) : (loadVar ty ⟨g, off, none⟩).run P w = .ok (.agg ((cs.drop off).take n).toArray) w := by
  obtain ⟨d, hu, hd, hi⟩ := ha
  have hn : ((cs.drop off).take n).length = n := by simp; omega
  have hl : (loadCells ⟨g, off, none⟩ ((cs.drop off).take n).length).run P w = .ok ((cs.drop off).take n).toArray w :=
    run_loadCells_list (P := P) w ⟨g, off, none⟩ _ (fun j v hv => by
      rw [addr_add]
      apply hg.cell_of
      rw [List.getElem?_take] at hv
      split at hv
      · rwa [List.getElem?_drop] at hv
      · cases hv)
  rw [hn] at hl
  cases hq : P.info? ty with
  | none => simp [hq] at hi
  | some i =>
    have hs : i.size = n := by simpa [hq] using hi
    have hagg : (isAgg ty).run P w = .ok true w := by
      unfold isAgg
      rw [Sem.run_bind, run_underlying hu w]
      cases d <;> simp_all
    simp [loadVar, Sem.run_bind, hagg, sizeOf, typeInfo, hq, hs, hl]

theorem run_storeVar_own (w : World) (g off : Nat) (t ty : TypeId) (cs : List Value) (v : Value) (vs : List Value) (hg : Own w g cs t)
    (hv : v.cells = vs.toArray) (hi : SizeIs P ty vs.length) (hle : off + vs.length ≤ cs.length)
    (h1 : ∀ x ∈ vs, x.oneCell' = true) :
    (storeVar ty ⟨g, off, none⟩ v).run P w = .ok () (w.setRow g (cs.take off ++ vs ++ cs.drop (off + vs.length)).toArray) := by
  have hl := run_storeCells_at (P := P) g off t vs 0 cs.toArray w hg (by simpa using hle) h1
  unfold SizeIs at hi
  cases hq : P.info? ty with
  | none => simp [hq] at hi
  | some i =>
    have hsz : i.size = vs.length := by simpa [hq] using hi
    simp only [Nat.add_zero] at hl
    simp [storeVar, sizeOf, typeInfo, Sem.run_bind, hq, hv, hsz]
    simpa using hl

variable {ops : Array Oper} {rest : List Oper} {o : Oper} {a : Act} {w : World} {Q : Exit → Act → World → Prop}

/-- a whole struct or array is loaded out of a block -/
theorem wpList_load_own (hgd : o.guard = none) (ty : TypeId) (x : Operand) (ho : o.op = .load ty x) (g off : Nat)
    (hx : a.eval x = .pointer (some ⟨g, off, none⟩)) (n : Nat) (ha : AggSize P ty n) (cs : List Value) (t : TypeId) (v : Value) (hg : Own w g cs t)
    (hle : off + n ≤ cs.length) (hv : v = .agg ((cs.drop off).take n).toArray)
    (h : wpList P ops Q rest (a.put o.dst v) w) : wpList P ops Q (o :: rest) a w := by
  refine wpList_plain hgd fun _ hK => ?_
  unfold Oper.wp execOp
  simp only [ho, hx, Instr.loadAt, Instr.sureAddr, Sem.run_bind, Sem.run_pure, Result.andThen_ok, run_loadVar_own w g off t ty cs n hg ha hle]
  rw [← hv]
  exact hK _ _ h

/-- one cell is loaded out of a block -/
theorem wpList_load_one (hgd : o.guard = none) (ty : TypeId) (x : Operand) (ho : o.op = .load ty x) (g off : Nat)
    (hx : a.eval x = .pointer (some ⟨g, off, none⟩)) (hn : ∀ w, (isAgg ty).run P w = .ok false w) (cs : List Value) (t : TypeId) (v : Value) (hg : Own w g cs t)
    (hv : cs[off]? = some v)
    (h : wpList P ops Q rest (a.put o.dst v) w) : wpList P ops Q (o :: rest) a w := by
  refine wpList_plain hgd fun _ hK => ?_
  unfold Oper.wp execOp
  have := hg.cell_of off hv
  simp only [ho, hx, Instr.loadAt, Instr.sureAddr, Sem.run_bind, Sem.run_pure, Result.andThen_ok, loadVar, hn, Bool.false_eq_true, if_false, run_load, this]
  exact hK _ _ h

/-- a value is stored into a block -/
theorem wpList_store_own (hgd : o.guard = none) (ty : TypeId) (x y : Operand) (ho : o.op = .store ty x y) (g off : Nat)
    (hx : a.eval x = .pointer (some ⟨g, off, none⟩)) (vs : List Value) (hv : (a.eval y).cells = vs.toArray) (n : Nat) (hi : SizeIs P ty n) (hn : vs.length = n)
    (cs : List Value) (t : TypeId) (hg : Own w g cs t)
    (hle : off + vs.length ≤ cs.length) (h1 : ∀ x ∈ vs, x.oneCell' = true)
    (h : ∀ w1, Own w1 g (cs.take off ++ vs ++ cs.drop (off + vs.length)) t → Wrote g w w1 → wpList P ops Q rest (a.put o.dst undef) w1) :
    wpList P ops Q (o :: rest) a w := by
  refine wpList_plain hgd fun _ hK => ?_
  unfold Oper.wp execOp
  simp only [ho, hx, Instr.storeAt, Instr.sureAddr, Sem.run_bind, Sem.run_pure, Result.andThen_ok, run_storeVar_own w g off t ty cs _ vs hg hv (hn ▸ hi) hle h1]
  exact hK _ _ (h _ (hg.setRow _) ⟨rfl, rfl, rfl, by simp, fun k hk => Go.setRow_other w g k _ hk⟩)

/-- a value is laid into a new block -/
theorem wpList_box_own (hgd : o.guard = none) (ty : TypeId) (x : Operand) (ho : o.op = .box ty x) (vs : List Value) (hv : (a.eval x).cells = vs.toArray)
    (h : ∀ w1, Own w1 w.heap.size vs ty → Newer w w1 → wpList P ops Q rest (a.put o.dst (.pointer (some ⟨w.heap.size, 0, none⟩))) w1) :
    wpList P ops Q (o :: rest) a w := by
  refine wpList_plain hgd fun _ hK => ?_
  unfold Oper.wp execOp
  simp only [ho, Instr.box, newVar, newRow, hv]
  exact hK _ _ (h (w.alloc (.cells vs.toArray ty (0, 0))) (Own.new w vs ty) (newer_alloc w _))

/-- the end of a function whose one result is a struct or an array, in a block of its own -/
theorem post_own {fn : Func} {R : Ending → World → Prop} {a : Act} {w : World} {p : Tmp} {ty : TypeId} (h : fn.results = #[.cell p ty]) (g : Nat)
    (hp : a.tmps.getD p undef = .pointer (some ⟨g, 0, none⟩)) (cs : List Value) (t : TypeId) (hg : Own w g cs t) (n : Nat) (ha : AggSize P ty n) (hn : cs.length = n)
    (hd : a.defers = []) (hR : R (.returned (.agg cs.toArray)) w) : bodyPost P fn R .ret a w := by
  subst hn
  obtain ⟨d, hu, hd', hi⟩ := ha
  exact bodyPost_ret (results_cell_row h _ _ g t cs.toArray (0, 0) d hp hg hu (by cases d <;> simp_all) (by simpa using hi)) hd hR

end

/-- what is known of memory in the middle of a call that began in w0: what was there is there, and these blocks are the call's own, no two the same -/
structure St (w0 w : World) (bs : List (Nat × List Value × TypeId)) : Prop where
  below : Below w0.heap.size w0 w
  own : ∀ x ∈ bs, w0.heap.size ≤ x.1 ∧ Own w x.1 x.2.1 x.2.2
  apart : bs.Pairwise fun x y => x.1 ≠ y.1

theorem St.start (w : World) : St w w [] := ⟨Below.refl _ _, by simp, List.Pairwise.nil⟩

theorem St.get {w0 w : World} {bs : List (Nat × List Value × TypeId)} (h : St w0 w bs) (i : Nat) {g : Nat} {cs : List Value} {t : TypeId} (hi : bs[i]? = some (g, cs, t)) : Own w g cs t :=
  (h.own _ (List.mem_of_getElem? hi)).2

/-- a call that leaves alone what there is -/
theorem St.call {w0 w w1 : World} {bs : List (Nat × List Value × TypeId)} (h : St w0 w bs) (hb : Below w.heap.size w w1) : St w0 w1 bs :=
  ⟨h.below.trans (hb.mono h.below.size), fun x hx => ⟨(h.own x hx).1, (h.own x hx).2.below hb (h.own x hx).2.lt⟩, h.apart⟩

theorem St.tail {w0 w : World} {x : Nat × List Value × TypeId} {bs : List (Nat × List Value × TypeId)} (h : St w0 w (x :: bs)) : St w0 w bs :=
  ⟨h.below, fun y hy => h.own y (List.mem_cons_of_mem _ hy), (List.pairwise_cons.1 h.apart).2⟩

theorem St.drew {w0 w : World} {bs : List (Nat × List Value × TypeId)} (h : St w0 w bs) : St w0 w.drew bs :=
  ⟨h.below.drew, fun x hx => ⟨(h.own x hx).1, (h.own x hx).2.drew⟩, h.apart⟩

theorem St.newer {w0 w w1 : World} {bs : List (Nat × List Value × TypeId)} (h : St w0 w bs) (hn : Newer w w1) {vs : List Value} {ty : TypeId} (ho : Own w1 w.heap.size vs ty) :
    St w0 w1 ((w.heap.size, vs, ty) :: bs) := by
  refine ⟨hn.below h.below h.below.size, ?_, ?_⟩
  · intro x hx
    rcases List.mem_cons.1 hx with rfl | hx
    · exact ⟨h.below.size, ho⟩
    · exact ⟨(h.own x hx).1, (h.own x hx).2.newer hn⟩
  · refine List.pairwise_cons.2 ⟨fun y hy => ?_, h.apart⟩
    have := (h.own y hy).2.lt
    show w.heap.size ≠ y.1
    omega

theorem St.wrote {w0 w w1 : World} {bs : List (Nat × List Value × TypeId)} (h : St w0 w bs) (i : Nat) {g : Nat} {cs : List Value} {t : TypeId} (hi : bs[i]? = some (g, cs, t))
    {cs' : List Value} (hw : Wrote g w w1) (ho : Own w1 g cs' t) : St w0 w1 (bs.set i (g, cs', t)) := by
  have hg := (h.own _ (List.mem_of_getElem? hi)).1
  refine ⟨hw.below h.below hg, ?_, ?_⟩
  · intro x hx
    obtain ⟨j, hj⟩ := List.mem_iff_getElem?.1 hx
    rw [List.getElem?_set] at hj
    by_cases hij : i = j
    · rw [if_pos hij] at hj
      split at hj
      · injection hj with hj; subst hj; exact ⟨hg, ho⟩
      · cases hj
    · rw [if_neg hij] at hj
      have hm := List.mem_of_getElem? hj
      refine ⟨(h.own x hm).1, (h.own x hm).2.wrote hw ?_⟩
      have hp := List.pairwise_iff_getElem.1 h.apart
      obtain ⟨h1, e1⟩ := List.getElem?_eq_some_iff.1 hi
      obtain ⟨h2, e2⟩ := List.getElem?_eq_some_iff.1 hj
      rcases Nat.lt_or_ge i j with l | l
      · have := hp i j h1 h2 l; rw [e1, e2] at this; exact fun e => this e.symm
      · have := hp j i h2 h1 (by omega); rw [e1, e2] at this; exact this
  · rw [List.pairwise_iff_getElem]
    intro a b ha hb hab
    have hp := List.pairwise_iff_getElem.1 h.apart
    simp only [List.length_set] at ha hb
    obtain ⟨h1, e1⟩ := List.getElem?_eq_some_iff.1 hi
    have k : ∀ c (hc : c < bs.length), ((bs.set i (g, cs', t))[c]'(by simpa using hc)).1 = bs[c].1 := by
      intro c hc
      rw [List.getElem_set]
      split
      · rename_i e; subst e; rw [e1]
      · rfl
    rw [k a ha, k b hb]
    exact hp a b ha hb hab

/-- a draw, or whatever turns no block -/
theorem St.same {w0 w w1 : World} {bs : List (Nat × List Value × TypeId)} (h : St w0 w bs) (hb : Below w.heap.size w w1) : St w0 w1 bs := h.call hb

section
variable {P : Program} {ops : Array Oper} {rest : List Oper} {o : Oper} {a : Act} {w w0 : World} {Q : Exit → Act → World → Prop} {bs : List (Nat × List Value × TypeId)}

theorem wpList_box_st (hgd : o.guard = none) (ty : TypeId) (x : Operand) (ho : o.op = .box ty x) (vs : List Value) (hv : (a.eval x).cells = vs.toArray) (st : St w0 w bs)
    (h : ∀ g w1, St w0 w1 ((g, vs, ty) :: bs) → wpList P ops Q rest (a.put o.dst (.pointer (some ⟨g, 0, none⟩))) w1) :
    wpList P ops Q (o :: rest) a w :=
  wpList_box_own hgd ty x ho vs hv fun w1 h1 h2 => h _ w1 (st.newer h2 h1)

/-- a new variable of a type whose zero value has the cells vs -/
theorem wpList_alloc_st (hgd : o.guard = none) (ty : TypeId) (ho : o.op = .alloc ty) (vs : List Value) (hz : ZeroIs P ty vs)
    (st : St w0 w bs)
    (h : ∀ g w1, St w0 w1 ((g, vs, ty) :: bs) → wpList P ops Q rest (a.put o.dst (.pointer (some ⟨g, 0, none⟩))) w1) :
    wpList P ops Q (o :: rest) a w := by
  obtain ⟨zv, hzc, hz⟩ := hz
  refine wpList_plain hgd fun _ hK => ?_
  unfold Oper.wp execOp
  simp only [ho, Instr.alloc, Sem.run_bind, hz, Result.andThen_ok, newVar, newRow, hzc]
  exact hK _ _ (h _ (w.alloc (.cells vs.toArray ty (0, 0))) (st.newer (newer_alloc w _) (Own.new w vs ty)))

theorem wpList_load_st (hgd : o.guard = none) (ty : TypeId) (x : Operand) (ho : o.op = .load ty x) (g off : Nat)
    (hx : a.eval x = .pointer (some ⟨g, off, none⟩)) (n : Nat) (ha : AggSize P ty n) (st : St w0 w bs) (i : Nat) (cs : List Value) (t : TypeId) (v : Value) (hi : bs[i]? = some (g, cs, t))
    (hle : off + n ≤ cs.length) (hv : v = .agg ((cs.drop off).take n).toArray)
    (h : wpList P ops Q rest (a.put o.dst v) w) : wpList P ops Q (o :: rest) a w :=
  wpList_load_own hgd ty x ho g off hx n ha cs t v (st.get i hi) hle hv h

theorem wpList_load1_st (hgd : o.guard = none) (ty : TypeId) (x : Operand) (ho : o.op = .load ty x) (g off : Nat)
    (hx : a.eval x = .pointer (some ⟨g, off, none⟩)) (hn : ∀ w, (isAgg ty).run P w = .ok false w) (st : St w0 w bs) (i : Nat) (cs : List Value) (t : TypeId) (v : Value) (hi : bs[i]? = some (g, cs, t))
    (hv : cs[off]? = some v)
    (h : wpList P ops Q rest (a.put o.dst v) w) : wpList P ops Q (o :: rest) a w :=
  wpList_load_one hgd ty x ho g off hx hn cs t v (st.get i hi) hv h

theorem wpList_store_st (hgd : o.guard = none) (ty : TypeId) (x y : Operand) (ho : o.op = .store ty x y) (g off : Nat)
    (hx : a.eval x = .pointer (some ⟨g, off, none⟩)) (vs : List Value) (hv : (a.eval y).cells = vs.toArray) (n : Nat) (hi : SizeIs P ty n) (hn : vs.length = n)
    (st : St w0 w bs) (i : Nat) (cs : List Value) (t : TypeId) (hg : bs[i]? = some (g, cs, t))
    (hle : off + vs.length ≤ cs.length) (h1 : ∀ x ∈ vs, x.oneCell' = true) (cs' : List Value) (hcs : cs' = cs.take off ++ vs ++ cs.drop (off + vs.length))
    (h : ∀ w1, St w0 w1 (bs.set i (g, cs', t)) → wpList P ops Q rest (a.put o.dst undef) w1) :
    wpList P ops Q (o :: rest) a w :=
  wpList_store_own hgd ty x y ho g off hx vs hv n hi hn cs t (st.get i hg) hle h1 fun w1 h1 h2 => h w1 (st.wrote i hg h2 (hcs ▸ h1))

theorem post_st {fn : Func} {R : Ending → World → Prop} {p : Tmp} {ty : TypeId} (h : fn.results = #[.cell p ty]) (g : Nat)
    (hp : a.tmps.getD p undef = .pointer (some ⟨g, 0, none⟩)) (st : St w0 w bs) (i : Nat) (cs : List Value) (t : TypeId) (hg : bs[i]? = some (g, cs, t)) (n : Nat) (ha : AggSize P ty n) (hn : cs.length = n)
    (hd : a.defers = []) (hR : R (.returned (.agg cs.toArray)) w) : bodyPost P fn R .ret a w :=
  post_own h g hp cs t (st.get i hg) n ha hn hd hR
end

end Go.Proofs.Ytdpongijmmdnoaa
