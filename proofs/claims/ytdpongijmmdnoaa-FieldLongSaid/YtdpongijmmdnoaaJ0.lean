/- joined: Mem Reg Bld Num Each Carry Typ Fa Fb -/
import Derived.WalkKit
import Derived.WalkLawsBesides
import Derived.WalkSpells
import Derived.Deep.RegionHeld
import Derived.Test.YtdpongijmmdnoaaProg
import Derived.Deep.QuietTactic
import Derived.BigQuiet
import Derived.Outline
set_option linter.unusedSimpArgs false
set_option linter.unusedVariables false
/- Blocks of the call's own, told whole: what a block holds ('Own'), and what loads, stores and new blocks make of it. Over any program. -/
namespace Go.Proofs.Ytdpongijmmdnoaa
open Go.RowKit

theorem hide {p : Prop} (h : p) : Hid p := h

def Own (w : World) (b : Nat) (xs : List Value) (T : TypeId) : Prop := w.heap[b]? = some (.cells xs.toArray T (0, 0))

theorem Own.lt {w : World} {b : Nat} {xs : List Value} {T : TypeId} (h : Own w b xs T) : b < w.heap.size := by
 by_cases hlt : b < w.heap.size
 ·exact hlt
 ·unfold Own at h; rw [Array.getElem?_eq_none (by omega)] at h; cases h

theorem Own.cell {w : World} {b : Nat} {xs : List Value} {T : TypeId} (h : Own w b xs T) (i : Nat) (hi : i < xs.length) :
 w.cell? ⟨b, i, none⟩ = some (xs.getD i undef) := by
 rw [cell_of_row w b i _ T (0, 0) h]; simp [List.getD, List.getElem?_eq_getElem hi]

theorem Own.cell_of {w : World} {b : Nat} {xs : List Value} {T : TypeId} (h : Own w b xs T) (i : Nat) {v : Value} (hi : xs[i]? = some v) :
 w.cell? ⟨b, i, none⟩ = some v := by
 rw [cell_of_row w b i _ T (0, 0) h]; simpa using hi

theorem Own.free {w : World} {b : Nat} {xs : List Value} {T : TypeId} (h : Own w b xs T) (i : Nat) : w.frozen? ⟨b, i, none⟩ = false :=
 frozen_of_row w b i _ T h

theorem Own.set {w : World} {b : Nat} {xs : List Value} {T : TypeId} (h : Own w b xs T) (i : Nat) (v : Value) : Own (w.setCell ⟨b, i, none⟩ v) b (xs.set i v) T := by
 have := heap_setCell_same w b i _ T v h
 unfold Own; rw [this]; simp

theorem Own.set_other {w : World} {b : Nat} {xs : List Value} {T : TypeId} (h : Own w b xs T) (a : Addr) (v : Value) (ha : b ≠ a.block) : Own (w.setCell a v) b xs T := by
 have := heap_setCell_other w a b v ha
 unfold Own; rw [this]; exact h

theorem Own.alloc {w : World} {b : Nat} {xs : List Value} {T : TypeId} (h : Own w b xs T) (o : Obj) : Own (w.alloc o) b xs T := by
 unfold Own; rw [Below.heap_alloc w o b h.lt]; exact h

theorem Own.drew {w : World} {b : Nat} {xs : List Value} {T : TypeId} (h : Own w b xs T) : Own w.drew b xs T := h

theorem Own.drewN {w : World} {b : Nat} {xs : List Value} {T : TypeId} (h : Own w b xs T) (n : Nat) : Own (w.drewN n) b xs T := h

theorem Own.new (w : World) (xs : List Value) (T : TypeId) : Own (w.alloc (.cells xs.toArray T (0, 0))) w.heap.size xs T := heap_alloc_new w _

theorem Own.below {B : Nat} {w w' : World} {b : Nat} {xs : List Value} {T : TypeId} (h : Own w b xs T) (hb : Below B w w') (hB : b < B) : Own w' b xs T := by
 unfold Own; rw [hb.block b hB]; exact h

theorem Own.setRow {w : World} {b : Nat} {xs : List Value} {T : TypeId} (h : Own w b xs T) (ys : List Value) : Own (w.setRow b ys.toArray) b ys T :=
 setRow_heap w b _ _ T (0, 0) h

theorem Own.setRow_other {w : World} {b : Nat} {xs : List Value} {T : TypeId} (h : Own w b xs T) (g : Nat) (cs : Array Value) (hg : b ≠ g) : Own (w.setRow g cs) b xs T := by
 unfold Own; rw [Go.setRow_other w g b cs hg]; exact h

theorem Below.drewN {B : Nat} {a w : World} (h : Below B a w) (n : Nat) : Below B a (w.drewN n) := ⟨h.os, h.tape, h.output, h.size, h.block⟩

theorem Below.setRow {B g : Nat} {w0 w : World} (hb : Below B w0 w) (hBg : B ≤ g) (cs : Array Value) : Below B w0 (w.setRow g cs) :=
 hb.trans ⟨rfl, rfl, rfl, by simp, fun k hk => Go.setRow_other w g k cs (by omega)⟩

def AG (c : List Value) : Value := .agg c.toArray

def us (l : List Int) : List Value := l.map (Value.int .u64)
def is (l : List Int) : List Value := l.map (Value.int .i64)
def ys (l : List Int) : List Value := l.map (Value.int .u8)
@[simp] theorem us_len (l : List Int) : (us l).length = l.length := by simp [us]
@[simp] theorem is_len (l : List Int) : (is l).length = l.length := by simp [is]
@[simp] theorem ys_len (l : List Int) : (ys l).length = l.length := by simp [ys]
theorem us_one (l : List Int) : ∀ x ∈ us l, x.oneCell' = true := by intro x hx; simp only [us, List.mem_map] at hx; obtain ⟨y, _, rfl⟩ := hx; rfl
theorem is_one (l : List Int) : ∀ x ∈ is l, x.oneCell' = true := by intro x hx; simp only [is, List.mem_map] at hx; obtain ⟨y, _, rfl⟩ := hx; rfl
theorem ys_one (l : List Int) : ∀ x ∈ ys l, x.oneCell' = true := by intro x hx; simp only [ys, List.mem_map] at hx; obtain ⟨y, _, rfl⟩ := hx; rfl
theorem us_get (l : List Int) (i : Nat) (h : i < l.length) : (us l)[i]? = some (.int .u64 (l.getD i 0)) := by simp [us, List.getD, h]
theorem is_get (l : List Int) (i : Nat) (h : i < l.length) : (is l)[i]? = some (.int .i64 (l.getD i 0)) := by simp [is, List.getD, h]
theorem ys_get (l : List Int) (i : Nat) (h : i < l.length) : (ys l)[i]? = some (.int .u8 (l.getD i 0)) := by simp [ys, List.getD, h]

def AggSize (P : Program) (ty : TypeId) (n : Nat) : Prop :=
 ∃ d, P.underlying ty = some d ∧ (match d with | .struct _ | .array _ _ => true | _ => false) = true ∧ (P.info? ty).map (·.size) = some n

def SizeIs (P : Program) (ty : TypeId) (n : Nat) : Prop := (P.info? ty).map (·.size) = some n
theorem AggSize.size {P : Program} {ty : TypeId} {n : Nat} (h : AggSize P ty n) : SizeIs P ty n := by obtain ⟨_, _, _, h⟩ := h; exact h

def ZeroIs (P : Program) (ty : TypeId) (vs : List Value) : Prop := ∃ v : Value, v.cells = vs.toArray ∧ ∀ W : World, (zeroValue ty).run P W = .ok v W
theorem ZeroIs.agg {P : Program} {ty : TypeId} {vs : List Value} (h : ∀ W : World, (zeroValue ty).run P W = .ok (.agg vs.toArray) W) : ZeroIs P ty vs := ⟨_, rfl, h⟩
theorem ZeroIs.one {P : Program} {ty : TypeId} {v : Value} (hv : v.cells = #[v]) (h : ∀ W : World, (zeroValue ty).run P W = .ok v W) : ZeroIs P ty [v] := ⟨_, hv, h⟩

structure Wrote (g : Nat) (w w1 : World) : Prop where
 os : w1.os = w.os
 tape : w1.tape = w.tape
 output : w1.output = w.output
 size : w1.heap.size = w.heap.size
 block : ∀ k, k ≠ g → w1.heap[k]? = w.heap[k]?

theorem Wrote.below {B g : Nat} {w0 w w1 : World} (h : Wrote g w w1) (hb : Below B w0 w) (hB : B ≤ g) : Below B w0 w1 :=
 hb.trans ⟨h.os, h.tape, h.output, Nat.le_of_eq h.size.symm, fun k hk => h.block k (by omega)⟩

theorem Own.wrote {g : Nat} {w w1 : World} {b : Nat} {xs : List Value} {T : TypeId} (h : Own w b xs T) (hw : Wrote g w w1) (hg : b ≠ g) : Own w1 b xs T := by
 unfold Own; rw [hw.block b hg]; exact h

structure Newer (w w1 : World) : Prop where
 os : w1.os = w.os
 tape : w1.tape = w.tape
 output : w1.output = w.output
 size : w1.heap.size = w.heap.size + 1
 block : ∀ k, k < w.heap.size → w1.heap[k]? = w.heap[k]?

theorem Newer.below {B : Nat} {w0 w w1 : World} (h : Newer w w1) (hb : Below B w0 w) (hB : B ≤ w.heap.size) : Below B w0 w1 :=
 hb.trans ⟨h.os, h.tape, h.output, by have := h.size; omega, fun k hk => h.block k (by omega)⟩

theorem Own.newer {w w1 : World} {b : Nat} {xs : List Value} {T : TypeId} (h : Own w b xs T) (hw : Newer w w1) : Own w1 b xs T := by
 unfold Own; rw [hw.block b h.lt]; exact h

theorem newer_alloc (w : World) (o : Obj) : Newer w (w.alloc o) := ⟨rfl, rfl, rfl, by simp, fun k hk => Below.heap_alloc w o k hk⟩

section
variable {P : Program}

theorem addr_add (g o i : Nat) : (⟨g, o, none⟩ : Addr).add i = ⟨g, o + i, none⟩ := by unfold Addr.add; split <;> simp_all

theorem run_loadVar_own (w : World) (g off : Nat) (t ty : TypeId) (cs : List Value) (n : Nat) (hg : Own w g cs t) (ha : AggSize P ty n)
 (hle : off + n ≤ cs.length) : (loadVar ty ⟨g, off, none⟩).run P w = .ok (.agg ((cs.drop off).take n).toArray) w := by
 obtain ⟨d, hu, hd, hi⟩ := ha
 have hn : ((cs.drop off).take n).length = n := by simp; omega
 have hl : (loadCells ⟨g, off, none⟩ ((cs.drop off).take n).length).run P w = .ok ((cs.drop off).take n).toArray w :=
  run_loadCells_list (P := P) w ⟨g, off, none⟩ _ (fun j v hv => by
   rw [addr_add]
   apply hg.cell_of
   rw [List.getElem?_take] at hv
   split at hv
   ·rwa [List.getElem?_drop] at hv
   ·cases hv)
 rw [hn] at hl
 cases hq : P.info? ty with
 | none => simp [hq] at hi
 | some i =>
  have hs : i.size = n := by simpa [hq] using hi
  have hagg : (isAgg ty).run P w = .ok true w := by
   unfold isAgg
   rw [Sem.run_bind, run_underlying hu w]
   cases d <;> simp_all
  simp [loadVar, Sem.run_bind, hagg, sizeOf, typeInfo, hq, hs, hl]

theorem run_storeVar_own (w : World) (g off : Nat) (t ty : TypeId) (cs : List Value) (v : Value) (vs : List Value) (hg : Own w g cs t)
 (hv : v.cells = vs.toArray) (hi : SizeIs P ty vs.length) (hle : off + vs.length ≤ cs.length)
 (h1 : ∀ x ∈ vs, x.oneCell' = true) :
 (storeVar ty ⟨g, off, none⟩ v).run P w = .ok () (w.setRow g (cs.take off ++ vs ++ cs.drop (off + vs.length)).toArray) := by
 have hl := run_storeCells_at (P := P) g off t vs 0 cs.toArray w hg (by simpa using hle) h1
 unfold SizeIs at hi
 cases hq : P.info? ty with
 | none => simp [hq] at hi
 | some i =>
  have hsz : i.size = vs.length := by simpa [hq] using hi
  simp only [Nat.add_zero] at hl
  simp [storeVar, sizeOf, typeInfo, Sem.run_bind, hq, hv, hsz]
  simpa using hl

variable {ops : Array Oper} {rest : List Oper} {o : Oper} {a : Act} {w : World} {Q : Exit → Act → World → Prop}

theorem wpList_load_own (hgd : o.guard = none) (ty : TypeId) (x : Operand) (ho : o.op = .load ty x) (g off : Nat)
 (hx : a.eval x = .pointer (some ⟨g, off, none⟩)) (n : Nat) (ha : AggSize P ty n) (cs : List Value) (t : TypeId) (v : Value) (hg : Own w g cs t)
 (hle : off + n ≤ cs.length) (hv : v = .agg ((cs.drop off).take n).toArray)
 (h : wpList P ops Q rest (a.put o.dst v) w) : wpList P ops Q (o :: rest) a w := by
 refine wpList_plain hgd fun _ hK => ?_
 unfold Oper.wp execOp
 simp only [ho, hx, Instr.loadAt, Instr.sureAddr, Sem.run_bind, Sem.run_pure, Result.andThen_ok, run_loadVar_own w g off t ty cs n hg ha hle]
 rw [← hv]
 exact hK _ _ h

theorem wpList_load_one (hgd : o.guard = none) (ty : TypeId) (x : Operand) (ho : o.op = .load ty x) (g off : Nat)
 (hx : a.eval x = .pointer (some ⟨g, off, none⟩)) (hn : ∀ w, (isAgg ty).run P w = .ok false w) (cs : List Value) (t : TypeId) (v : Value) (hg : Own w g cs t)
 (hv : cs[off]? = some v)
 (h : wpList P ops Q rest (a.put o.dst v) w) : wpList P ops Q (o :: rest) a w := by
 refine wpList_plain hgd fun _ hK => ?_
 unfold Oper.wp execOp
 have := hg.cell_of off hv
 simp only [ho, hx, Instr.loadAt, Instr.sureAddr, Sem.run_bind, Sem.run_pure, Result.andThen_ok, loadVar, hn, Bool.false_eq_true, if_false, run_load, this]
 exact hK _ _ h

theorem wpList_store_own (hgd : o.guard = none) (ty : TypeId) (x y : Operand) (ho : o.op = .store ty x y) (g off : Nat)
 (hx : a.eval x = .pointer (some ⟨g, off, none⟩)) (vs : List Value) (hv : (a.eval y).cells = vs.toArray) (n : Nat) (hi : SizeIs P ty n) (hn : vs.length = n)
 (cs : List Value) (t : TypeId) (hg : Own w g cs t)
 (hle : off + vs.length ≤ cs.length) (h1 : ∀ x ∈ vs, x.oneCell' = true)
 (h : ∀ w1, Own w1 g (cs.take off ++ vs ++ cs.drop (off + vs.length)) t → Wrote g w w1 → wpList P ops Q rest (a.put o.dst undef) w1) :
 wpList P ops Q (o :: rest) a w := by
 refine wpList_plain hgd fun _ hK => ?_
 unfold Oper.wp execOp
 simp only [ho, hx, Instr.storeAt, Instr.sureAddr, Sem.run_bind, Sem.run_pure, Result.andThen_ok, run_storeVar_own w g off t ty cs _ vs hg hv (hn ▸ hi) hle h1]
 exact hK _ _ (h _ (hg.setRow _) ⟨rfl, rfl, rfl, by simp, fun k hk => Go.setRow_other w g k _ hk⟩)

theorem wpList_box_own (hgd : o.guard = none) (ty : TypeId) (x : Operand) (ho : o.op = .box ty x) (vs : List Value) (hv : (a.eval x).cells = vs.toArray)
 (h : ∀ w1, Own w1 w.heap.size vs ty → Newer w w1 → wpList P ops Q rest (a.put o.dst (.pointer (some ⟨w.heap.size, 0, none⟩))) w1) :
 wpList P ops Q (o :: rest) a w := by
 refine wpList_plain hgd fun _ hK => ?_
 unfold Oper.wp execOp
 simp only [ho, Instr.box, newVar, newRow, hv]
 exact hK _ _ (h (w.alloc (.cells vs.toArray ty (0, 0))) (Own.new w vs ty) (newer_alloc w _))

theorem post_own {fn : Func} {R : Ending → World → Prop} {a : Act} {w : World} {p : Tmp} {ty : TypeId} (h : fn.results = #[.cell p ty]) (g : Nat)
 (hp : a.tmps.getD p undef = .pointer (some ⟨g, 0, none⟩)) (cs : List Value) (t : TypeId) (hg : Own w g cs t) (n : Nat) (ha : AggSize P ty n) (hn : cs.length = n)
 (hd : a.defers = []) (hR : R (.returned (.agg cs.toArray)) w) : bodyPost P fn R .ret a w := by
 subst hn
 obtain ⟨d, hu, hd', hi⟩ := ha
 exact bodyPost_ret (results_cell_row h _ _ g t cs.toArray (0, 0) d hp hg hu (by cases d <;> simp_all) (by simpa using hi)) hd hR

end

structure St (w0 w : World) (bs : List (Nat × List Value × TypeId)) : Prop where
 below : Below w0.heap.size w0 w
 own : ∀ x ∈ bs, w0.heap.size ≤ x.1 ∧ Own w x.1 x.2.1 x.2.2
 apart : bs.Pairwise fun x y => x.1 ≠ y.1

theorem St.start (w : World) : St w w [] := ⟨Below.refl _ _, by simp, List.Pairwise.nil⟩

theorem St.get {w0 w : World} {bs : List (Nat × List Value × TypeId)} (h : St w0 w bs) (i : Nat) {g : Nat} {cs : List Value} {t : TypeId} (hi : bs[i]? = some (g, cs, t)) : Own w g cs t :=
 (h.own _ (List.mem_of_getElem? hi)).2

theorem St.call {w0 w w1 : World} {bs : List (Nat × List Value × TypeId)} (h : St w0 w bs) (hb : Below w.heap.size w w1) : St w0 w1 bs :=
 ⟨h.below.trans (hb.mono h.below.size), fun x hx => ⟨(h.own x hx).1, (h.own x hx).2.below hb (h.own x hx).2.lt⟩, h.apart⟩

theorem St.tail {w0 w : World} {x : Nat × List Value × TypeId} {bs : List (Nat × List Value × TypeId)} (h : St w0 w (x :: bs)) : St w0 w bs :=
 ⟨h.below, fun y hy => h.own y (List.mem_cons_of_mem _ hy), (List.pairwise_cons.1 h.apart).2⟩

theorem St.drew {w0 w : World} {bs : List (Nat × List Value × TypeId)} (h : St w0 w bs) : St w0 w.drew bs :=
 ⟨h.below.drew, fun x hx => ⟨(h.own x hx).1, (h.own x hx).2.drew⟩, h.apart⟩

theorem St.newer {w0 w w1 : World} {bs : List (Nat × List Value × TypeId)} (h : St w0 w bs) (hn : Newer w w1) {vs : List Value} {ty : TypeId} (ho : Own w1 w.heap.size vs ty) :
 St w0 w1 ((w.heap.size, vs, ty) :: bs) := by
 refine ⟨hn.below h.below h.below.size, ?_, ?_⟩
 ·intro x hx
  rcases List.mem_cons.1 hx with rfl | hx
  ·exact ⟨h.below.size, ho⟩
  ·exact ⟨(h.own x hx).1, (h.own x hx).2.newer hn⟩
 ·refine List.pairwise_cons.2 ⟨fun y hy => ?_, h.apart⟩
  have := (h.own y hy).2.lt
  show w.heap.size ≠ y.1
  omega

theorem St.wrote {w0 w w1 : World} {bs : List (Nat × List Value × TypeId)} (h : St w0 w bs) (i : Nat) {g : Nat} {cs : List Value} {t : TypeId} (hi : bs[i]? = some (g, cs, t))
 {cs' : List Value} (hw : Wrote g w w1) (ho : Own w1 g cs' t) : St w0 w1 (bs.set i (g, cs', t)) := by
 have hg := (h.own _ (List.mem_of_getElem? hi)).1
 refine ⟨hw.below h.below hg, ?_, ?_⟩
 ·intro x hx
  obtain ⟨j, hj⟩ := List.mem_iff_getElem?.1 hx
  rw [List.getElem?_set] at hj
  by_cases hij : i = j
  ·rw [if_pos hij] at hj
   split at hj
   ·injection hj with hj; subst hj; exact ⟨hg, ho⟩
   ·cases hj
  ·rw [if_neg hij] at hj
   have hm := List.mem_of_getElem? hj
   refine ⟨(h.own x hm).1, (h.own x hm).2.wrote hw ?_⟩
   have hp := List.pairwise_iff_getElem.1 h.apart
   obtain ⟨h1, e1⟩ := List.getElem?_eq_some_iff.1 hi
   obtain ⟨h2, e2⟩ := List.getElem?_eq_some_iff.1 hj
   rcases Nat.lt_or_ge i j with l | l
   ·have := hp i j h1 h2 l; rw [e1, e2] at this; exact fun e => this e.symm
   ·have := hp j i h2 h1 (by omega); rw [e1, e2] at this; exact this
 ·rw [List.pairwise_iff_getElem]
  intro a b ha hb hab
  have hp := List.pairwise_iff_getElem.1 h.apart
  simp only [List.length_set] at ha hb
  obtain ⟨h1, e1⟩ := List.getElem?_eq_some_iff.1 hi
  have k : ∀ c (hc : c < bs.length), ((bs.set i (g, cs', t))[c]'(by simpa using hc)).1 = bs[c].1 := by
   intro c hc
   rw [List.getElem_set]
   split
   ·rename_i e; subst e; rw [e1]
   ·rfl
  rw [k a ha, k b hb]
  exact hp a b ha hb hab

theorem St.same {w0 w w1 : World} {bs : List (Nat × List Value × TypeId)} (h : St w0 w bs) (hb : Below w.heap.size w w1) : St w0 w1 bs := h.call hb

section
variable {P : Program} {ops : Array Oper} {rest : List Oper} {o : Oper} {a : Act} {w w0 : World} {Q : Exit → Act → World → Prop} {bs : List (Nat × List Value × TypeId)}

theorem wpList_box_st (hgd : o.guard = none) (ty : TypeId) (x : Operand) (ho : o.op = .box ty x) (vs : List Value) (hv : (a.eval x).cells = vs.toArray) (st : St w0 w bs)
 (h : ∀ g w1, St w0 w1 ((g, vs, ty) :: bs) → wpList P ops Q rest (a.put o.dst (.pointer (some ⟨g, 0, none⟩))) w1) :
 wpList P ops Q (o :: rest) a w :=
 wpList_box_own hgd ty x ho vs hv fun w1 h1 h2 => h _ w1 (st.newer h2 h1)

theorem wpList_alloc_st (hgd : o.guard = none) (ty : TypeId) (ho : o.op = .alloc ty) (vs : List Value) (hz : ZeroIs P ty vs)
 (st : St w0 w bs)
 (h : ∀ g w1, St w0 w1 ((g, vs, ty) :: bs) → wpList P ops Q rest (a.put o.dst (.pointer (some ⟨g, 0, none⟩))) w1) :
 wpList P ops Q (o :: rest) a w := by
 obtain ⟨zv, hzc, hz⟩ := hz
 refine wpList_plain hgd fun _ hK => ?_
 unfold Oper.wp execOp
 simp only [ho, Instr.alloc, Sem.run_bind, hz, Result.andThen_ok, newVar, newRow, hzc]
 exact hK _ _ (h _ (w.alloc (.cells vs.toArray ty (0, 0))) (st.newer (newer_alloc w _) (Own.new w vs ty)))

theorem wpList_load_st (hgd : o.guard = none) (ty : TypeId) (x : Operand) (ho : o.op = .load ty x) (g off : Nat)
 (hx : a.eval x = .pointer (some ⟨g, off, none⟩)) (n : Nat) (ha : AggSize P ty n) (st : St w0 w bs) (i : Nat) (cs : List Value) (t : TypeId) (v : Value) (hi : bs[i]? = some (g, cs, t))
 (hle : off + n ≤ cs.length) (hv : v = .agg ((cs.drop off).take n).toArray)
 (h : wpList P ops Q rest (a.put o.dst v) w) : wpList P ops Q (o :: rest) a w :=
 wpList_load_own hgd ty x ho g off hx n ha cs t v (st.get i hi) hle hv h

theorem wpList_load1_st (hgd : o.guard = none) (ty : TypeId) (x : Operand) (ho : o.op = .load ty x) (g off : Nat)
 (hx : a.eval x = .pointer (some ⟨g, off, none⟩)) (hn : ∀ w, (isAgg ty).run P w = .ok false w) (st : St w0 w bs) (i : Nat) (cs : List Value) (t : TypeId) (v : Value) (hi : bs[i]? = some (g, cs, t))
 (hv : cs[off]? = some v)
 (h : wpList P ops Q rest (a.put o.dst v) w) : wpList P ops Q (o :: rest) a w :=
 wpList_load_one hgd ty x ho g off hx hn cs t v (st.get i hi) hv h

theorem wpList_store_st (hgd : o.guard = none) (ty : TypeId) (x y : Operand) (ho : o.op = .store ty x y) (g off : Nat)
 (hx : a.eval x = .pointer (some ⟨g, off, none⟩)) (vs : List Value) (hv : (a.eval y).cells = vs.toArray) (n : Nat) (hi : SizeIs P ty n) (hn : vs.length = n)
 (st : St w0 w bs) (i : Nat) (cs : List Value) (t : TypeId) (hg : bs[i]? = some (g, cs, t))
 (hle : off + vs.length ≤ cs.length) (h1 : ∀ x ∈ vs, x.oneCell' = true) (cs' : List Value) (hcs : cs' = cs.take off ++ vs ++ cs.drop (off + vs.length))
 (h : ∀ w1, St w0 w1 (bs.set i (g, cs', t)) → wpList P ops Q rest (a.put o.dst undef) w1) :
 wpList P ops Q (o :: rest) a w :=
 wpList_store_own hgd ty x y ho g off hx vs hv n hi hn cs t (st.get i hg) hle h1 fun w1 h1 h2 => h w1 (st.wrote i hg h2 (hcs ▸ h1))

theorem post_st {fn : Func} {R : Ending → World → Prop} {p : Tmp} {ty : TypeId} (h : fn.results = #[.cell p ty]) (g : Nat)
 (hp : a.tmps.getD p undef = .pointer (some ⟨g, 0, none⟩)) (st : St w0 w bs) (i : Nat) (cs : List Value) (t : TypeId) (hg : bs[i]? = some (g, cs, t)) (n : Nat) (ha : AggSize P ty n) (hn : cs.length = n)
 (hd : a.defers = []) (hR : R (.returned (.agg cs.toArray)) w) : bodyPost P fn R .ret a w :=
 post_own h g hp cs t (st.get i hg) n ha hn hd hR
end

end Go.Proofs.Ytdpongijmmdnoaa
/- A region that draws its order, walked in one order: what reads only yields the same in every world that meets S; what makes memory comes up in a forced order. Over any program. -/
namespace Go.Proofs.Ytdpongijmmdnoaa
open Go.RowKit

section
variable {P : Program} {ops : Array Oper} {Q : Exit → Act → World → Prop} {S : World → Prop}

end

structure Keep (D : Nat → Prop) (B : Nat) (w w' : World) : Prop where
 os : w'.os = w.os
 tape : w'.tape = w.tape
 output : w'.output = w.output
 size : w.heap.size ≤ w'.heap.size
 block : ∀ k, k < B → ¬ D k → w'.heap[k]? = w.heap[k]?

theorem Keep.trans {D : Nat → Prop} {B : Nat} {a b c : World} (h : Keep D B a b) (k : Keep D B b c) : Keep D B a c :=
 ⟨k.os.trans h.os, k.tape.trans h.tape, k.output.trans h.output, Nat.le_trans h.size k.size, fun i hi hd => (k.block i hi hd).trans (h.block i hi hd)⟩
theorem Keep.wrote {D : Nat → Prop} {B g : Nat} {w0 w w1 : World} (h : Keep D B w0 w) (hw : Wrote g w w1) (hg : D g) : Keep D B w0 w1 :=
 h.trans ⟨hw.os, hw.tape, hw.output, Nat.le_of_eq hw.size.symm, fun k _ hd => hw.block k (fun e => hd (e ▸ hg))⟩
theorem Own.keep {D : Nat → Prop} {B : Nat} {w w' : World} {b : Nat} {xs : List Value} {T : TypeId} (h : Own w b xs T) (hb : Keep D B w w') (hB : b < B) (hd : ¬ D b) : Own w' b xs T := by
 unfold Own; rw [hb.block b hB hd]; exact h
theorem Keep.below {D : Nat → Prop} {B B' : Nat} {w w' : World} (h : Keep D B w w') (hB : B' ≤ B) (hd : ∀ k, D k → B' ≤ k) : Below B' w w' :=
 ⟨h.os, h.tape, h.output, h.size, fun k hk => h.block k (by omega) (fun e => by have := hd k e; omega)⟩

end Go.Proofs.Ytdpongijmmdnoaa
/- Structs and arrays built of parts. Over any program. -/
namespace Go.Proofs.Ytdpongijmmdnoaa
open Go.RowKit

theorem foldl_put (off : Nat) : ∀ (vs : List Value) (k : Nat) (cells : Array Value), off + k + vs.length ≤ cells.size →
 ((vs.zipIdx k).foldl (fun cs (x : Value × Nat) => cs.setIfInBounds (off + x.2) x.1) cells).toList = cells.toList.take (off + k) ++ vs ++ cells.toList.drop (off + k + vs.length)
 | [], k, cells, _ => by simp
 | v :: vs, k, cells, h => by
  simp only [List.length_cons] at h
  rw [List.zipIdx_cons, List.foldl_cons, foldl_put off vs (k + 1) _ (by simp; omega)]
  simp only [Array.toList_setIfInBounds]
  have := list_seg_step cells.toList (off + k) v vs (by simp; omega)
  simpa [Nat.add_assoc] using this

theorem fill_one {place : Nat → Option (Nat × Nat)} {cells : List Value} {i off : Nat} {v : Value} {vs : List Value} {rest : List (Nat × Value)}
 (hp : place i = some (off, vs.length)) (hv : v.cells = vs.toArray) (hle : off + vs.length ≤ cells.length) :
 Instr.fill place cells.toArray ((i, v) :: rest) = Instr.fill place (cells.take off ++ vs ++ cells.drop (off + vs.length)).toArray rest := by
 have e := foldl_put off vs 0 cells.toArray (by simpa using hle)
 simp only [Nat.add_zero] at e
 have e' : (vs.toArray.zipIdx.foldl (fun cs (x : Value × Nat) => cs.setIfInBounds (off + x.2) x.1) cells.toArray) = (cells.take off ++ vs ++ cells.drop (off + vs.length)).toArray := by
  apply Array.ext'
  rw [← Array.foldl_toList]
  simpa using e
 conv => lhs; rw [Instr.fill]
 simp only [hp, hv, List.size_toArray]
 rw [if_neg (by simp; omega)]
 exact congrArg (fun z => Instr.fill place z rest) e'

theorem run_build_struct {P : Program} {ty : TypeId} {fields : Array Field} {places : Array (Nat × Nat)} {zs out : List Value} {pv : List (Nat × Value)}
 (hz : ∀ W : World, (zeroValue ty).run P W = .ok (.agg zs.toArray) W) (hu : P.underlying ty = some (.struct fields))
 (hpl : ∀ W : World, (fields.mapM (fun f => (do pure (f.offset, ← sizeOf f.type) : Sem (Nat × Nat)))).run P W = .ok places W)
 (hf : Instr.fill (places[·]?) zs.toArray pv = some out.toArray) (W : World) : (Instr.build ty pv.toArray).run P W = .ok (AG out) W := by
 unfold Instr.build
 simp only [Sem.run_bind, hz, Result.andThen_ok, Value.cells, run_underlying hu, hpl, hf, Sem.run_pure]
 rfl

theorem put_all (xs vs : List Value) (n : Nat) (h : vs.length = n) (h' : xs.length = n) : vs = xs.take 0 ++ vs ++ xs.drop (0 + vs.length) := by simp [h, h']
theorem cut_all (c : List Value) (n : Nat) (h : c.length = n) : AG c = .agg ((c.drop 0).take n).toArray := by simp [AG, ← h]

section
variable {P : Program} {ops : Array Oper} {rest : List Oper} {o : Oper} {a : Act} {w : World} {Q : Exit → Act → World → Prop} {S : World → Prop}

theorem wpList_build (hgd : o.guard = none) (ty : TypeId) (ps : List (Nat × Operand)) (ho : o.op = .build ty ps.toArray) (pv : List (Nat × Value))
 (hpv : ps.map (fun x => (x.1, a.eval x.2)) = pv) (v : Value) (hb : ∀ W : World, (Instr.build ty pv.toArray).run P W = .ok v W)
 (h : wpList P ops Q rest (a.put o.dst v) w) : wpList P ops Q (o :: rest) a w := by
 refine wpList_plain hgd fun _ hK => ?_
 unfold Oper.wp execOp
 simp only [ho, List.map_toArray, hpv, Sem.run_bind, hb, Result.andThen_ok, Sem.run_pure]
 exact hK _ _ h

end
end Go.Proofs.Ytdpongijmmdnoaa
/- Words of 64 bits and bytes: what the model's operations are as plain numbers. -/
namespace Go.Proofs.Ytdpongijmmdnoaa

theorem and_mask (s : Int) (i : Nat) (hi : i ≤ 64) : bits .and .u64 (s % 18446744073709551616) (2 ^ i - 1) = s % 2 ^ i := by
 have h0 : 0 ≤ s % 18446744073709551616 := Int.emod_nonneg _ (by decide)
 have h1 : s % 18446744073709551616 < 18446744073709551616 := Int.emod_lt_of_pos _ (by decide)
 have := bits_mask .u64 64 (by decide) (fun n a b => by rw [IntKind.wrap_u64]; omega) i hi (s % 18446744073709551616) h0 (by omega)
 rw [this]
 have hd : ((2 : Int) ^ i) ∣ 18446744073709551616 := by
  refine ⟨2 ^ (64 - i), ?_⟩
  rw [← Int.pow_add, show i + (64 - i) = 64 by omega]; rfl
 exact Int.emod_emod_of_dvd s hd

theorem and56 (s : Int) : bits .and .u64 (IntKind.u64.wrap s) 72057594037927935 = s % 72057594037927936 := by
 rw [IntKind.wrap_u64]; exact and_mask s 56 (by omega)

end Go.Proofs.Ytdpongijmmdnoaa
/- field.each: what the array holds, by what the function that is handed in answers. -/
namespace Go.Proofs.Ytdpongijmmdnoaa
open Go.RowKit

def fillTo (n : Nat) (g : Nat → Value) (z : Value) (k : Nat) : List Value := (List.range n).map fun j => if j < k then g j else z

theorem fillTo_len (n : Nat) (g : Nat → Value) (z : Value) (k : Nat) : (fillTo n g z k).length = n := by simp [fillTo]

theorem fillTo_set (n : Nat) (g : Nat → Value) (z : Value) (k : Nat) : (fillTo n g z k).set k (g k) = fillTo n g z (k + 1) := by
 apply List.ext_getElem
 ·simp [fillTo]
 ·intro i h1 h2
  simp only [fillTo, List.getElem_set, List.getElem_map, List.getElem_range]
  by_cases hik : k = i
  ·subst hik; simp
  ·simp only [hik, if_false]
   by_cases hlt : i < k
   ·simp [hlt, Nat.lt_succ_of_lt hlt]
   ·rw [if_neg hlt, if_neg (by omega)]

theorem fillTo_all (n : Nat) (g : Nat → Value) (z : Value) : fillTo n g z n = (List.range n).map g := by
 apply List.map_congr_left
 intro j hj
 simp [List.mem_range.1 hj]

theorem fillTo_zero (n : Nat) (g : Nat → Value) (z : Value) : fillTo n g z 0 = List.replicate n z := by
 apply List.ext_getElem <;> simp [fillTo]

theorem agg8 : AggSize Try.prog 25 8 := ⟨_, Try.underlying25, rfl, by kernel_rfl⟩
theorem sz8 : SizeIs Try.prog 25 8 := agg8.size
theorem aggE : AggSize Try.prog 27 8 := ⟨_, Try.underlying27, rfl, by kernel_rfl⟩
theorem sz64 : SizeIs Try.prog 24 1 := by unfold SizeIs; kernel_rfl

abbrev U (x : Int) : Value := .int .u64 x

set_option maxHeartbeats 400000 in
theorem each_any (f : FuncId) (caps : Array Value) (l : List Int) (hl : l.length = 8) (w : World)
 (hent : ∀ (args : Array Value) (W : World), (callFunc f args).run Try.prog W = .ok (.enter f args) W)
 (hc : ∀ (i : Nat) (W : World), i < 8 → Below w.heap.size w W →
   Calls Try.prog f (#[.int .i64 i] ++ caps) W fun e w' => e = .returned (.int .u64 (l.getD i 0)) ∧ Below W.heap.size W w') :
 Calls Try.prog 43 #[.func (.func f) #[] caps] w
  fun e w' => e = .returned (AG (us l)) ∧ Below w.heap.size w w' := by
 have Hc := hide hc; clear hc
 have hlu : (List.range 8).map (fun j => U (l.getD j 0)) = us l := by
  match l, hl with
  | [_, _, _, _, _, _, _, _], _ => rfl
 have Hlu := hide hlu; clear hlu
 obtain ⟨g, hg⟩ : ∃ g : Nat → Int, g = fun j => l.getD j 0 := ⟨_, rfl⟩
 have Hg := hide hg
 have hgi : ∀ i, l.getD i 0 = g i := fun i => by rw [hg]
 have Hgi := hide hgi; clear hg hgi
 go_enter Try.func43, Try.ntmps43
 go_wp2
 go_loopw [5] (fun i wr => ∃ k : Nat, k ≤ 8 ∧ i = .int .i64 k ∧ Own wr w.heap.size (List.replicate 8 (U 0)) 25 ∧ Own wr (w.heap.size + 1) (fillTo 8 (fun j => U (g j)) (U 0) k) 25 ∧ Below w.heap.size w wr) (fun i _ => 8 - (intOf i).toNat)
 case atStart =>
  refine ⟨0, by omega, rfl, (Own.new w _ _).alloc _, ?_, ((Below.refl _ _).alloc (Nat.le_refl _) _).alloc (by simp) _⟩
  have := Own.new (w.alloc (.cells (List.replicate 8 (U 0)).toArray 25 (0, 0))) (List.replicate 8 (U 0)) 25
  rw [World.size_alloc] at this
  rw [fillTo_zero]
  exact this
 case round =>
  obtain ⟨k, hk, rfl, h1, h2, hb⟩ := hrel
  by_cases hlt : k < 8
  ·have hlt' : (k : Int) < 8 := by omega
   go_wp2_with fail
   refine (Hc.out k wr hlt hb).mono ?_
   rintro e w1 ⟨rfl, hb1⟩
   rw [Hgi.out]
   have h1' := h1.below hb1 h1.lt
   have h2' := h2.below hb1 h2.lt
   have hb' := hb.trans (hb1.mono hb.size)
   have c2 := h2'.cell k (by rw [fillTo_len]; exact hlt)
   have f2 := h2'.free k
   have S := hide ((fillTo_set 8 (fun j => U (g j)) (U 0) k) ▸ h2'.set k (U (g k)))
   have S1 := hide (h1'.set_other ⟨w.heap.size + 1, k, none⟩ (U (g k)) (by simp))
   have S2 := hide (hb'.setCell (p := ⟨w.heap.size + 1, k, none⟩) (by simp) (U (g k)))
   clear h1' h2' hb' h1 h2 hb1 hb Hc
   go_wp2_with fail
   go_roundw
   case rel => exact ⟨k + 1, by omega, by go_num, S1.out, S.out, S2.out⟩
   case measure => simp [intOf]; omega
  ·have : k = 8 := by omega
   subst this
   rw [fillTo_all, Hg.out, Hlu.out] at h2
   go_wp2_with (first | refine wpList_load_own rfl 25 _ rfl _ _ rfl 8 agg8 _ _ (AG (us l)) h2 (by simp [hl]) (by rw [List.drop_zero, List.take_of_length_le (by simp [hl])]; rfl) ?_ | (refine wpList_store_own rfl 25 _ _ rfl _ _ rfl (us l) rfl 8 sz8 (by simp [hl]) _ _ h1 (by simp [hl]) (us_one _) ?_; intro w2 hw2 hW2))
   have e8 : List.take 0 (List.replicate 8 (U 0)) ++ us l ++ List.drop (0 + (us l).length) (List.replicate 8 (U 0)) = us l := by simp [hl]
   rw [e8] at hw2
   exact post_own rfl _ rfl _ _ hw2 8 agg8 (by simp [hl]) rfl ⟨rfl, hW2.below hb (Nat.le_refl _)⟩
end Go.Proofs.Ytdpongijmmdnoaa
/- (field.Element).carry -/
namespace Go.Proofs.Ytdpongijmmdnoaa
open Go.RowKit

def carryTo (l : List Int) : Nat → List Int × Int
 | 0 => (l, 0)
 | k + 1 => ((carryTo l k).1.set k (((carryTo l k).1.getD k 0 + (carryTo l k).2) % 72057594037927936), ((carryTo l k).1.getD k 0 + (carryTo l k).2) % 18446744073709551616 / 72057594037927936)

def carryEnd (q : List Int × Int) : List Int :=
 let m := q.1.set 0 ((q.1.getD 0 0 + q.2) % 18446744073709551616)
 m.set 4 ((m.getD 4 0 + q.2) % 18446744073709551616)

def carryF (l : List Int) : List Int := carryEnd (carryTo l 8)

theorem carryTo_len (l : List Int) (k : Nat) : (carryTo l k).1.length = l.length := by
 induction k with
 | zero => rfl
 | succ k ih => simp [carryTo, ih]
@[simp] theorem carryF_len (l : List Int) : (carryF l).length = l.length := by simp [carryF, carryEnd, carryTo_len]
theorem set_self {α : Type} (l : List α) (k : Nat) (v u : α) : (l.set k v).set k u = l.set k u := by simp

set_option maxHeartbeats 1000000 in
theorem carry_any (l : List Int) (hl : l.length = 8) (w : World) :
 Calls Try.prog 45 #[AG (us l)] w
  fun e w' => e = .returned (AG (us (carryF l))) ∧ Below w.heap.size w w' := by
 go_enter Try.func45, Try.ntmps45
 go_wp2_with (refine wpList_box_own rfl 27 _ rfl (l.map U) rfl ?_; intro w1 h1 n1)
 have hs1 := n1.size
 go_loopw [3, 5] (fun t i wr => ∃ k : Nat, k ≤ 8 ∧ i = .int .i64 k ∧ t = U (carryTo l k).2 ∧ (carryTo l k).1.length = 8 ∧ Own wr w.heap.size ((carryTo l k).1.map U) 27 ∧ Own wr w1.heap.size (List.replicate 8 (U 0)) 27 ∧ Below w.heap.size w wr) (fun _ i _ => 8 - (intOf i).toNat)
 case atStart =>
  exact ⟨0, by omega, rfl, rfl, hl, h1.alloc _, Own.new w1 (List.replicate 8 (U 0)) _, (n1.below (Below.refl _ _) (Nat.le_refl _)).alloc (by omega) _⟩
 case round =>
  obtain ⟨k, hk, rfl, rfl, hlen, h1, h2, hb⟩ := hrel
  generalize hq : carryTo l k = q at *
  obtain ⟨m, o⟩ := q
  have Hq := hide hq; clear hq
  by_cases hlt : k < 8
  ·have hlt' : (k : Int) < 8 := by omega
   obtain ⟨x, hx⟩ : ∃ x, m[k]? = some x := ⟨m[k]'(by simp at hlen; omega), by simp⟩
   have c1 := h1.cell_of k (v := U x) (by simp [hx])
   have f1 := h1.free k
   dsimp only at *
   go_wp2
   go_roundw
   case rel =>
    have e : carryTo l (k + 1) = (m.set k ((x + o) % 72057594037927936), (x + o) % 18446744073709551616 / 72057594037927936) := by
     simp only [carryTo, Hq.out, List.getD, hx, Option.getD_some]
    refine ⟨k + 1, by omega, by go_num, ?_, ?_, ?_, ?_, ?_⟩
    ·rw [e, IntKind.wrap_u64]
    ·rw [e]; simpa using hlen
    ·rw [e, and56]
     have := (h1.set k (U (IntKind.u64.wrap (x + o)))).set k (U ((x + o) % 72057594037927936))
     rw [set_self] at this
     rw [List.map_set]; exact this
    ·exact (h2.set_other _ _ (by show w1.heap.size ≠ w.heap.size; omega)).set_other _ _ (by show w1.heap.size ≠ w.heap.size; omega)
    ·exact (hb.setCell (p := ⟨w.heap.size, k, none⟩) (Nat.le_refl _) _).setCell (p := ⟨w.heap.size, k, none⟩) (Nat.le_refl _) _
   case measure => simp [intOf]; omega
  ·have : k = 8 := by omega
   subst this
   have hne : w1.heap.size ≠ w.heap.size := by omega
   have hle : w.heap.size ≤ w1.heap.size := by omega
   clear hs1
   obtain ⟨m0, m1, m2, m3, m4, m5, m6, m7, rfl⟩ : ∃ a b c d e f g h, m = [a, b, c, d, e, f, g, h] := by
    match m, hlen with
    | [a, b, c, d, e, f, g, h], _ => exact ⟨a, b, c, d, e, f, g, h, rfl⟩
   have c0 := h1.cell_of 0 (v := U m0) rfl
   have f0 := h1.free 0
   go_wp2_with (first
    | (refine wpList_store_own rfl 24 _ _ rfl _ 0 rfl [U (IntKind.u64.wrap (m0 + o))] rfl 1 sz64 rfl _ _ h1 (by simp) (by intro x hx; simp at hx; subst hx; rfl) ?_; intro w3 h3 W3; replace h2 := h2.wrote W3 hne; replace hb := W3.below hb (Nat.le_refl _); have c4 := h3.cell_of 4 (v := U m4) rfl; have f4 := h3.free 4; clear c0 f0)
    | (refine wpList_store_own rfl 24 _ _ rfl _ 4 rfl [U (IntKind.u64.wrap (m4 + o))] rfl 1 sz64 rfl _ _ h3 (by simp) (by intro x hx; simp at hx; subst hx; rfl) ?_; intro w4 h4 W4; replace h2 := h2.wrote W4 hne; replace hb := W4.below hb (Nat.le_refl _); clear c4 f4)
    | (refine wpList_load_own rfl 27 _ rfl _ 0 rfl 8 aggE _ _ _ h4 (by simp) rfl ?_)
    | (refine wpList_store_own rfl 27 _ _ rfl _ 0 rfl [U (IntKind.u64.wrap (m0 + o)), U m1, U m2, U m3, U (IntKind.u64.wrap (m4 + o)), U m5, U m6, U m7] rfl 8 aggE.size rfl _ _ h2 (by simp) (by intro x hx; simp at hx; rcases hx with rfl | rfl | rfl | rfl | rfl | rfl | rfl | rfl <;> rfl) ?_; intro w2 hw2 hW2))
   refine post_own rfl _ rfl _ _ hw2 8 aggE rfl rfl ⟨?_, ?_⟩
   ·simp [AG, us, carryF, Hq.out, carryEnd, IntKind.wrap_u64]
   ·exact hW2.below hb (by omega)
end Go.Proofs.Ytdpongijmmdnoaa
/- Closed facts of the types. -/
namespace Go.Proofs.Ytdpongijmmdnoaa
open Go.RowKit

theorem aggF : AggSize Try.prog 31 16 := ⟨_, Try.underlying31, rfl, by kernel_rfl⟩
theorem aggR : AggSize Try.prog 23 56 := ⟨_, Try.underlying23, rfl, by kernel_rfl⟩

theorem szI : SizeIs Try.prog 3 1 := by unfold SizeIs; kernel_rfl

def zE : List Int := [0, 0, 0, 0, 0, 0, 0, 0]
def zF : List Int := [0, 0, 0, 0, 0, 0, 0, 0, 0, 0, 0, 0, 0, 0, 0, 0]
@[simp] theorem zE_len : zE.length = 8 := rfl
@[simp] theorem zF_len : zF.length = 16 := rfl
theorem zeroE (W : World) : (zeroValue 27).run Try.prog W = .ok (.agg (us zE).toArray) W := by kernel_rfl
theorem zero8 (W : World) : (zeroValue 25).run Try.prog W = .ok (.agg (us zE).toArray) W := by kernel_rfl
theorem zero64 (W : World) : (zeroValue 24).run Try.prog W = .ok (.int .u64 0) W := by kernel_rfl
theorem zeroF (W : World) : (zeroValue 31).run Try.prog W = .ok (.agg (is zF).toArray) W := by kernel_rfl

theorem zisE : ZeroIs Try.prog 27 (us zE) := .agg zeroE
theorem zis8 : ZeroIs Try.prog 25 (us zE) := .agg zero8
theorem zis64 : ZeroIs Try.prog 24 (us [0]) := .one rfl zero64
theorem zisF : ZeroIs Try.prog 31 (is zF) := .agg zeroF

theorem build_E (l : List Int) (hl : l.length = 8) (W : World) : (Instr.build 27 [((0 : Nat), AG (us l))].toArray).run Try.prog W = .ok (AG (us l)) W := by
 refine run_build_struct zeroE Try.underlying27 (places := #[(0, 8)]) (fun _ => by kernel_rfl) ?_ W
 rw [fill_one (off := 0) (vs := us l) (by simp [hl]) rfl (by simp [hl, zE])]
 simp [Instr.fill, hl, us, zE]

theorem build_E0 (W : World) : (Instr.build 27 ([] : List (Nat × Value)).toArray).run Try.prog W = .ok (AG (us zE)) W :=
 run_build_struct zeroE Try.underlying27 (places := #[(0, 8)]) (fun _ => by kernel_rfl) rfl W
end Go.Proofs.Ytdpongijmmdnoaa
/- field.Add -/
namespace Go.Proofs.Ytdpongijmmdnoaa
open Go.RowKit

theorem enters (f : FuncId) (args : Array Value) (W : World) (fn : Func) (h : Try.prog.funcs[f]? = some fn) (hb : fn.body.isNone = false) (hn : (fn.name == "runtime.NumGoroutine") = false) :
 (callFunc f args).run Try.prog W = .ok (.enter f args) W := by
 simp only [callFunc, Sem.run_bind, run_program, Result.andThen_ok, h, hn, hb, Bool.false_eq_true, if_false, Sem.run_pure]

set_option maxHeartbeats 400000 in
theorem addc_any (i : Nat) (hi : i < 8) (a b : Nat) (x y : Int) (w : World)
 (ha : w.cell? ⟨a, i, none⟩ = some (.int .u64 x)) (hb : w.cell? ⟨b, i, none⟩ = some (.int .u64 y)) :
  Calls Try.prog 44 #[.int .i64 i, .pointer (some ⟨a, 0, none⟩), .pointer (some ⟨b, 0, none⟩)] w
   fun e w' => e = .returned (.int .u64 (IntKind.u64.wrap (x + y))) ∧ Below w.heap.size w w' := by
 have h1 : (i : Int) < 8 := by omega
 go_enter Try.func44, Try.ntmps44
 go_wp2
 go_quiet (fail)
 go_wp2
 go_ret
 exact ⟨rfl, Below.drewN (Below.refl _ _) _⟩

def tab8 (g : Nat → Int) : List Int := (List.range 8).map g
@[simp] theorem tab8_len (g : Nat → Int) : (tab8 g).length = 8 := by simp [tab8]
theorem tab8_get (g : Nat → Int) (i : Nat) (h : i < 8) : (tab8 g).getD i 0 = g i := by simp [tab8, List.getD, h]
def addR (a b : List Int) : List Int := tab8 fun i => IntKind.u64.wrap (a.getD i 0 + b.getD i 0)
def addF (a b : List Int) : List Int := carryF (addR a b)
@[simp] theorem addR_len (a b : List Int) : (addR a b).length = 8 := tab8_len _
@[simp] theorem addF_len (a b : List Int) : (addF a b).length = 8 := by simp [addF]

set_option maxHeartbeats 400000 in
theorem add_any (a b : List Int) (la : a.length = 8) (lb : b.length = 8) (w : World) :
 Calls Try.prog 14 #[AG (us a), AG (us b)] w
  fun e w' => e = .returned (AG (us (addF a b))) ∧ Below w.heap.size w w' := by
 go_enter Try.func14, Try.ntmps14
 have st := St.start w
 go_wp2_with (first
  | ((with_reducible show wpList _ _ _ (⟨some 2, _, _, _, _, _⟩ :: _) _ _); refine wpList_box_st (o := ⟨some 2, _, _, _, _, _⟩) rfl 27 (.tmp 0) rfl (us a) rfl st ?_; clear st; intro g2 w2 st)
  | ((with_reducible show wpList _ _ _ (⟨some 3, _, _, _, _, _⟩ :: _) _ _); refine wpList_box_st (o := ⟨some 3, _, _, _, _, _⟩) rfl 27 (.tmp 1) rfl (us b) rfl st ?_; clear st; intro g3 w3 st)
  | ((with_reducible show wpList _ _ _ (⟨some 4, _, _, _, _, _⟩ :: _) _ _); refine wpList_alloc_st (o := ⟨some 4, _, _, _, _, _⟩) rfl 27 rfl (us zE) zisE st ?_; clear st; intro g4 w4 st))
 refine (each_any 44 #[.pointer (some ⟨g2, 0, none⟩), .pointer (some ⟨g3, 0, none⟩)] (addR a b) (addR_len a b) _ (fun _ _ => enters _ _ _ _ Try.func44 rfl (by kernel_rfl)) (fun i W hi hW => (tab8_get _ i hi) ▸ addc_any i hi g2 g3 _ _ W (((st.call hW).get 2 rfl).cell_of i (us_get a i (by omega))) (((st.call hW).get 1 rfl).cell_of i (us_get b i (by omega))))).mono ?_
 rintro e w5 ⟨rfl, hb5⟩
 replace st := st.call hb5; clear hb5
 go_wp2_with ((with_reducible show wpList _ _ _ (⟨some 7, _, _, _, _, _⟩ :: _) _ _); refine wpList_build (o := ⟨some 7, _, _, _, _, _⟩) rfl 27 [(0, .tmp 6)] rfl [(0, AG (us (addR a b)))] rfl _ (build_E _ (addR_len a b)) ?_)
 refine (carry_any (addR a b) (addR_len a b) _).mono ?_
 rintro e w8 ⟨rfl, hb8⟩
 replace st := st.call hb8; clear hb8
 go_wp2_with (refine wpList_store_st (o := ⟨none, _, _, _, _, _⟩) rfl 27 (.tmp 4) (.tmp 8) rfl g4 0 rfl (us (addF a b)) rfl 8 aggE.size (by simp) st 0 _ _ rfl (by simp) (us_one _) (us (addF a b)) (put_all _ _ 8 (by simp) (by simp)) ?_; clear st; intro w9 st)
 exact post_st rfl g4 rfl st 0 _ _ rfl 8 aggE (by simp) rfl ⟨rfl, st.below⟩

set_option maxHeartbeats 400000 in
theorem subc_any (i : Nat) (hi : i < 8) (a p b : Nat) (x q y : Int) (w : World)
 (ha : w.cell? ⟨a, i, none⟩ = some (.int .u64 x)) (hp : w.cell? ⟨p, i, none⟩ = some (.int .u64 q)) (hb : w.cell? ⟨b, i, none⟩ = some (.int .u64 y)) :
  Calls Try.prog 48 #[.int .i64 i, .pointer (some ⟨a, 0, none⟩), .pointer (some ⟨p, 0, none⟩), .pointer (some ⟨b, 0, none⟩)] w
   fun e w' => e = .returned (.int .u64 (IntKind.u64.wrap (IntKind.u64.wrap (x + IntKind.u64.wrap (2 * q)) - y))) ∧ Below w.heap.size w w' := by
 have h1 : (i : Int) < 8 := by omega
 go_enter Try.func48, Try.ntmps48
 go_wp2
 go_quiet (fail)
 go_wp2
 go_ret
 exact ⟨rfl, Below.drewN (Below.refl _ _) _⟩

def primeL : List Int := [72057594037927935, 72057594037927935, 72057594037927935, 72057594037927935, 72057594037927934, 72057594037927935, 72057594037927935, 72057594037927935]
@[simp] theorem primeL_len : primeL.length = 8 := rfl
def subR (a b : List Int) : List Int := tab8 fun i => IntKind.u64.wrap (IntKind.u64.wrap (a.getD i 0 + IntKind.u64.wrap (2 * primeL.getD i 0)) - b.getD i 0)
def subF (a b : List Int) : List Int := carryF (subR a b)
@[simp] theorem subR_len (a b : List Int) : (subR a b).length = 8 := tab8_len _
@[simp] theorem subF_len (a b : List Int) : (subF a b).length = 8 := by simp [subF]

set_option maxHeartbeats 400000 in
theorem selc_any (i : Nat) (hi : i < 8) (a m b : Nat) (x q y : Int) (w : World)
 (ha : w.cell? ⟨a, i, none⟩ = some (.int .u64 x)) (hp : w.cell? ⟨m, 0, none⟩ = some (.int .u64 q)) (hb : w.cell? ⟨b, i, none⟩ = some (.int .u64 y)) :
  Calls Try.prog 51 #[.int .i64 i, .pointer (some ⟨a, 0, none⟩), .pointer (some ⟨m, 0, none⟩), .pointer (some ⟨b, 0, none⟩)] w
   fun e w' => e = .returned (.int .u64 (bits .xor .u64 x (bits .and .u64 q (bits .xor .u64 x y)))) ∧ Below w.heap.size w w' := by
 have h1 : (i : Int) < 8 := by omega
 go_enter Try.func51, Try.ntmps51
 go_wp2
 go_quiet (fail)
 go_wp2
 go_ret
 exact ⟨rfl, Below.drewN (Below.refl _ _) _⟩

def selR (m : Int) (a b : List Int) : List Int := tab8 fun i => bits .xor .u64 (a.getD i 0) (bits .and .u64 m (bits .xor .u64 (a.getD i 0) (b.getD i 0)))
@[simp] theorem selR_len (m : Int) (a b : List Int) : (selR m a b).length = 8 := tab8_len _

theorem fill_rep (v : Value) (n : Nat) : (List.range n).map (fun _ => v) = List.replicate n v := by
 apply List.ext_getElem <;> simp

set_option maxHeartbeats 1000000 in
theorem prime_any (w : World) :
 Calls Try.prog 47 #[] w fun e w' => e = .returned (AG (us primeL)) ∧ Below w.heap.size w w' := by
 go_enter Try.func47, Try.ntmps47
 have st := St.start w
 go_wp2_with (first
  | ((with_reducible show wpList _ _ _ (⟨some 0, _, _, _, _, _⟩ :: _) _ _); refine wpList_alloc_st (o := ⟨some 0, _, _, _, _, _⟩) rfl 25 rfl (us zE) zis8 st ?_; clear st; intro g0 w0 st)
  | ((with_reducible show wpList _ _ _ (⟨some 1, _, _, _, _, _⟩ :: _) _ _); refine wpList_alloc_st (o := ⟨some 1, _, _, _, _, _⟩) rfl 25 rfl (us zE) zis8 st ?_; clear st; intro g1 w1 st))
 go_loopw [3] (fun i wr => ∃ k : Nat, k ≤ 8 ∧ i = .int .i64 k ∧ St w wr [(g1, fillTo 8 (fun _ => U 72057594037927935) (U 0) k, 25), (g0, us zE, 25)]) (fun i _ => 8 - (intOf i).toNat)
 case atStart => exact ⟨0, by omega, rfl, st⟩
 case round =>
  obtain ⟨k, hk, rfl, hs⟩ := hrel
  clear st
  have o1 := hs.get 0 rfl
  by_cases hlt : k < 8
  ·have hlt' : (k : Int) < 8 := by omega
   have c1 := o1.cell k (by rw [fillTo_len]; exact hlt)
   have f1 := o1.free k
   have S := hide (hs.wrote 0 rfl (cs' := fillTo 8 (fun _ => U 72057594037927935) (U 0) (k + 1)) (w1 := wr.setCell ⟨g1, k, none⟩ (U 72057594037927935)) ⟨rfl, rfl, rfl, by simp, fun j hj => heap_setCell_other wr _ j _ hj⟩ ((fillTo_set 8 (fun _ => U 72057594037927935) (U 0) k) ▸ o1.set k _))
   clear o1 hs
   go_wp2
   go_roundw
   case rel => exact ⟨k + 1, by omega, by go_num, S.out⟩
   case measure => simp [intOf]; omega
  ·have : k = 8 := by omega
   subst this
   rw [fillTo_all, fill_rep] at hs o1
   have c1 := o1.cell_of 4 (v := U 72057594037927935) rfl
   have f1 := o1.free 4
   clear o1
   go_wp2_with (first
    | ((with_reducible show wpList _ _ _ (⟨none, .store 24 _ _, _, _, _, _⟩ :: _) _ _); refine wpList_store_st (o := ⟨none, .store 24 _ _, _, _, _, _⟩) rfl 24 _ _ rfl g1 4 rfl [U 72057594037927934] rfl 1 sz64 rfl hs 0 _ _ rfl (by simp) (by intro x hx; simp at hx; subst hx; rfl) (us primeL) rfl ?_; clear hs c1 f1; intro w2 st)
    | ((with_reducible show wpList _ _ _ (⟨some 13, _, _, _, _, _⟩ :: _) _ _); refine wpList_load_st (o := ⟨some 13, _, _, _, _, _⟩) rfl 25 (.tmp 1) rfl g1 0 rfl 8 agg8 st 0 _ _ (AG (us primeL)) rfl (by simp) (cut_all _ 8 (by simp)) ?_)
    | ((with_reducible show wpList _ _ _ (⟨none, .store 25 _ _, _, _, _, _⟩ :: _) _ _); refine wpList_store_st (o := ⟨none, .store 25 _ _, _, _, _, _⟩) rfl 25 _ _ rfl g0 0 rfl (us primeL) rfl 8 agg8.size (by simp) st 1 _ _ rfl (by simp) (us_one _) (us primeL) (put_all _ _ 8 (by simp) (by simp)) ?_; clear st; intro w3 st))
   exact post_st rfl g0 rfl st 1 _ _ rfl 8 agg8 (by simp) rfl ⟨rfl, st.below⟩
end Go.Proofs.Ytdpongijmmdnoaa
/- the straight functions of package field: WRITTEN BY gen_field.py -/
namespace Go.Proofs.Ytdpongijmmdnoaa
open Go.RowKit

set_option maxHeartbeats 400000 in
theorem sub_any (a b : List Int) (la : a.length = 8) (lb : b.length = 8) (w : World) :
 Calls Try.prog 16 #[(AG (us a)), (AG (us b))] w fun e w' => e = .returned (AG (us (subF a b))) ∧ Below w.heap.size w w' := by
 go_enter Try.func16, Try.ntmps16
 have st := St.start w
 go_wp2_with (first
  | ((with_reducible show wpList _ _ _ (⟨some 2, _, _, _, _, _⟩ :: _) _ _); refine wpList_box_st (o := ⟨some 2, _, _, _, _, _⟩) rfl 27 (.tmp 0) rfl (us a) rfl st ?_; clear st; intro g2 w2 st)
  | ((with_reducible show wpList _ _ _ (⟨some 3, _, _, _, _, _⟩ :: _) _ _); refine wpList_box_st (o := ⟨some 3, _, _, _, _, _⟩) rfl 27 (.tmp 1) rfl (us b) rfl st ?_; clear st; intro g3 w3 st)
  | ((with_reducible show wpList _ _ _ (⟨some 4, _, _, _, _, _⟩ :: _) _ _); refine wpList_alloc_st (o := ⟨some 4, _, _, _, _, _⟩) rfl 27 rfl (us zE) zisE st ?_; clear st; intro g4 w4 st))
 refine (prime_any _).mono ?_
 rintro e w6 ⟨rfl, hb⟩
 replace st := st.call hb; clear hb
 go_wp2_with (first
  | ((with_reducible show wpList _ _ _ (⟨some 5, _, _, _, _, _⟩ :: _) _ _); refine wpList_alloc_st (o := ⟨some 5, _, _, _, _, _⟩) rfl 25 rfl (us zE) zis8 st ?_; clear st; intro g5 w5 st)
  | ((with_reducible show wpList _ _ _ (⟨none, .store 25 (.tmp 5) (.tmp 6), _, _, _, _⟩ :: _) _ _); refine wpList_store_st (o := ⟨none, _, _, _, _, _⟩) rfl 25 (.tmp 5) (.tmp 6) rfl g5 0 rfl (us primeL) rfl 8 agg8.size (by first | omega | (simp; done) | (simp; omega)) st 0 _ _ rfl (by first | omega | (simp; done) | (simp; omega)) (us_one _) (us primeL) (put_all _ _ 8 (by first | omega | (simp; done) | (simp; omega)) (by first | omega | (simp; done) | (simp; omega))) ?_; clear st; intro w_0 st))
 refine (each_any 48 #[.pointer (some ⟨g2, 0, none⟩), .pointer (some ⟨g5, 0, none⟩), .pointer (some ⟨g3, 0, none⟩)] (subR a b) (subR_len a b) _ (fun _ _ => enters _ _ _ _ Try.func48 rfl (by kernel_rfl)) (fun i W hi hW => (tab8_get _ i hi) ▸ subc_any i hi g2 g5 g3 _ _ _ W (((st.call hW).get 3 rfl).cell_of i (us_get a i (by omega))) (((st.call hW).get 0 rfl).cell_of i (us_get primeL i (by simp; omega))) (((st.call hW).get 2 rfl).cell_of i (us_get b i (by omega))))).mono ?_
 rintro e w8 ⟨rfl, hb⟩
 replace st := st.call hb; clear hb
 go_wp2_with ((with_reducible show wpList _ _ _ (⟨some 9, _, _, _, _, _⟩ :: _) _ _); refine wpList_build (o := ⟨some 9, _, _, _, _, _⟩) rfl 27 [(0, (.tmp 8))] rfl [(0, (AG (us (subR a b))))] rfl (AG (us (subR a b))) (build_E (subR a b) (by first | omega | (simp; done) | (simp; omega))) ?_)
 refine (carry_any (subR a b) (by first | omega | (simp; done) | (simp; omega)) _).mono ?_
 rintro e w10 ⟨rfl, hb⟩
 replace st := st.call hb; clear hb
 go_wp2_with ((with_reducible show wpList _ _ _ (⟨none, .store 27 (.tmp 4) (.tmp 10), _, _, _, _⟩ :: _) _ _); refine wpList_store_st (o := ⟨none, _, _, _, _, _⟩) rfl 27 (.tmp 4) (.tmp 10) rfl g4 0 rfl (us (carryF (subR a b))) rfl 8 aggE.size (by first | omega | (simp; done) | (simp; omega)) st 1 _ _ rfl (by first | omega | (simp; done) | (simp; omega)) (us_one _) (us (carryF (subR a b))) (put_all _ _ 8 (by first | omega | (simp; done) | (simp; omega)) (by first | omega | (simp; done) | (simp; omega))) ?_; clear st; intro w_1 st)
 exact post_st rfl g4 rfl st 1 _ _ rfl 8 aggE (by first | omega | (simp; done) | (simp; omega)) rfl ⟨rfl, st.below⟩

def negF (a : List Int) : List Int := subF zE a
@[simp] theorem negF_len (a : List Int) : (negF a).length = 8 := by simp [negF]

set_option maxHeartbeats 400000 in
theorem neg_any (a : List Int) (la : a.length = 8) (w : World) :
 Calls Try.prog 18 #[(AG (us a))] w fun e w' => e = .returned (AG (us (negF a))) ∧ Below w.heap.size w w' := by
 go_enter Try.func18, Try.ntmps18
 have st := St.start w
 go_wp2_with (first
  | ((with_reducible show wpList _ _ _ (⟨some 1, _, _, _, _, _⟩ :: _) _ _); refine wpList_box_st (o := ⟨some 1, _, _, _, _, _⟩) rfl 27 (.tmp 0) rfl (us a) rfl st ?_; clear st; intro g1 w1 st)
  | ((with_reducible show wpList _ _ _ (⟨some 2, _, _, _, _, _⟩ :: _) _ _); refine wpList_alloc_st (o := ⟨some 2, _, _, _, _, _⟩) rfl 27 rfl (us zE) zisE st ?_; clear st; intro g2 w2 st)
  | ((with_reducible show wpList _ _ _ (⟨some 3, _, _, _, _, _⟩ :: _) _ _); refine wpList_build (o := ⟨some 3, _, _, _, _, _⟩) rfl 27 [] rfl [] rfl (AG (us zE)) build_E0 ?_)
  | ((with_reducible show wpList _ _ _ (⟨some 4, _, _, _, _, _⟩ :: _) _ _); refine wpList_load_st (o := ⟨some 4, _, _, _, _, _⟩) rfl 27 (.tmp 1) rfl g1 0 rfl 8 aggE st 1 _ _ (AG (us a)) rfl (by first | omega | (simp; done) | (simp; omega)) (cut_all _ 8 (by first | omega | (simp; done) | (simp; omega))) ?_))
 refine (sub_any zE a (by first | omega | (simp; done) | (simp; omega)) (by first | omega | (simp; done) | (simp; omega)) _).mono ?_
 rintro e w5 ⟨rfl, hb⟩
 replace st := st.call hb; clear hb
 go_wp2_with ((with_reducible show wpList _ _ _ (⟨none, .store 27 (.tmp 2) (.tmp 5), _, _, _, _⟩ :: _) _ _); refine wpList_store_st (o := ⟨none, _, _, _, _, _⟩) rfl 27 (.tmp 2) (.tmp 5) rfl g2 0 rfl (us (subF zE a)) rfl 8 aggE.size (by first | omega | (simp; done) | (simp; omega)) st 0 _ _ rfl (by first | omega | (simp; done) | (simp; omega)) (us_one _) (us (subF zE a)) (put_all _ _ 8 (by first | omega | (simp; done) | (simp; omega)) (by first | omega | (simp; done) | (simp; omega))) ?_; clear st; intro w_0 st)
 exact post_st rfl g2 rfl st 0 _ _ rfl 8 aggE (by first | omega | (simp; done) | (simp; omega)) rfl ⟨rfl, st.below⟩

def selM (bit : Int) : Int := IntKind.u64.wrap (-(bits .and .u64 (IntKind.u64.wrap bit) 1))
def selF (bit : Int) (a b : List Int) : List Int := selR (selM bit) a b
@[simp] theorem selF_len (bit : Int) (a b : List Int) : (selF bit a b).length = 8 := selR_len _ _ _
theorem selF_get (bit : Int) (a b : List Int) (i : Nat) (h : i < 8) : (selF bit a b).getD i 0 = bits .xor .u64 (a.getD i 0) (bits .and .u64 (selM bit) (bits .xor .u64 (a.getD i 0) (b.getD i 0))) := by
 unfold selF selR; rw [tab8_get _ i h]

set_option maxHeartbeats 400000 in
theorem select_any (bit : Int) (a b : List Int) (la : a.length = 8) (lb : b.length = 8) (w : World) :
 Calls Try.prog 25 #[(.int .i64 bit), (AG (us a)), (AG (us b))] w fun e w' => e = .returned (AG (us (selF bit a b))) ∧ Below w.heap.size w w' := by
 go_enter Try.func25, Try.ntmps25
 have st := St.start w
 go_wp2_with (first
  | ((with_reducible show wpList _ _ _ (⟨some 4, _, _, _, _, _⟩ :: _) _ _); refine wpList_box_st (o := ⟨some 4, _, _, _, _, _⟩) rfl 27 (.tmp 1) rfl (us a) rfl st ?_; clear st; intro g4 w4 st)
  | ((with_reducible show wpList _ _ _ (⟨some 5, _, _, _, _, _⟩ :: _) _ _); refine wpList_box_st (o := ⟨some 5, _, _, _, _, _⟩) rfl 27 (.tmp 2) rfl (us b) rfl st ?_; clear st; intro g5 w5 st)
  | ((with_reducible show wpList _ _ _ (⟨some 6, _, _, _, _, _⟩ :: _) _ _); refine wpList_alloc_st (o := ⟨some 6, _, _, _, _, _⟩) rfl 27 rfl (us zE) zisE st ?_; clear st; intro g6 w6 st)
  | ((with_reducible show wpList _ _ _ (⟨some 7, _, _, _, _, _⟩ :: _) _ _); refine wpList_alloc_st (o := ⟨some 7, _, _, _, _, _⟩) rfl 24 rfl (us [0]) zis64 st ?_; clear st; intro g7 w7 st)
  | ((with_reducible show wpList _ _ _ (⟨none, .store 24 (.tmp 7) (.tmp 11), _, _, _, _⟩ :: _) _ _); refine wpList_store_st (o := ⟨none, _, _, _, _, _⟩) rfl 24 (.tmp 7) (.tmp 11) rfl g7 0 rfl ([(.int .u64 (selM bit))]) rfl 1 sz64 (by first | omega | (simp; done) | (simp; omega)) st 0 _ _ rfl (by first | omega | (simp; done) | (simp; omega)) (by intro x hx; simp at hx; subst hx; rfl) ([(.int .u64 (selM bit))]) (put_all _ _ 1 (by first | omega | (simp; done) | (simp; omega)) (by first | omega | (simp; done) | (simp; omega))) ?_; clear st; intro w_0 st))
 refine (each_any 51 #[.pointer (some ⟨g4, 0, none⟩), .pointer (some ⟨g7, 0, none⟩), .pointer (some ⟨g5, 0, none⟩)] (selF bit a b) (selF_len bit a b) _ (fun _ _ => enters _ _ _ _ Try.func51 rfl (by kernel_rfl)) (fun i W hi hW => (selF_get bit a b i hi) ▸ selc_any i hi g4 g7 g5 _ _ _ W (((st.call hW).get 3 rfl).cell_of i (us_get a i (by omega))) (((st.call hW).get 0 rfl).cell_of 0 rfl) (((st.call hW).get 2 rfl).cell_of i (us_get b i (by omega))))).mono ?_
 rintro e w13 ⟨rfl, hb⟩
 replace st := st.call hb; clear hb
 go_wp2_with (first
  | ((with_reducible show wpList _ _ _ (⟨some 14, _, _, _, _, _⟩ :: _) _ _); refine wpList_build (o := ⟨some 14, _, _, _, _, _⟩) rfl 27 [(0, (.tmp 13))] rfl [(0, (AG (us (selF bit a b))))] rfl (AG (us (selF bit a b))) (build_E (selF bit a b) (by first | omega | (simp; done) | (simp; omega))) ?_)
  | ((with_reducible show wpList _ _ _ (⟨none, .store 27 (.tmp 6) (.tmp 14), _, _, _, _⟩ :: _) _ _); refine wpList_store_st (o := ⟨none, _, _, _, _, _⟩) rfl 27 (.tmp 6) (.tmp 14) rfl g6 0 rfl (us (selF bit a b)) rfl 8 aggE.size (by first | omega | (simp; done) | (simp; omega)) st 1 _ _ rfl (by first | omega | (simp; done) | (simp; omega)) (us_one _) (us (selF bit a b)) (put_all _ _ 8 (by first | omega | (simp; done) | (simp; omega)) (by first | omega | (simp; done) | (simp; omega))) ?_; clear st; intro w_1 st))
 exact post_st rfl g6 rfl st 1 _ _ rfl 8 aggE (by first | omega | (simp; done) | (simp; omega)) rfl ⟨rfl, st.below⟩

end Go.Proofs.Ytdpongijmmdnoaa
