/- What an operation yields, told by what the slots and the own blocks hold. Over any program. -/
import Derived.Test.YtdpongijmmdnoaaSya
import Derived.Maps.AppendAt
namespace Go.Proofs.Ytdpongijmmdnoaa
open Go.RowKit

/-- a slice of the call's own that may grow: the variable of its value, that of its cells; its elements' type, their size -/
structure RowS where
  kv : Nat
  kc : Nat
  T : TypeId
  sz : Nat
  deriving DecidableEq

structure Sym where
  slots : List SV
  blocks : List Blk
  rows : List RowS
  n : Nat
  dep : Nat

def Sym.put (st : Sym) (d : Option Tmp) (v : SV) : Sym :=
  match d with
  | some t => { st with slots := st.slots.set t v }
  | none => st

def bsD (env : List Value) (gs : List Nat) (bl : List Blk) : List (Nat × List Value × TypeId) := List.zipWith (fun g (b : Blk) => (g, catS env gs b.1, b.2)) gs bl

def RowIn (w0 w : World) (env : List Value) (r : RowS) : Prop :=
  ∃ v cs m, env[r.kv]? = some v ∧ env[r.kc]? = some (.agg cs.toArray) ∧ (∀ x ∈ cs, x.oneCell' = true) ∧ w.ownsRow w0.heap.size r.T r.sz v m cs
structure RowsOK (w0 w : World) (env : List Value) (gs : List Nat) (rows : List RowS) : Prop where
  own : ∀ r ∈ rows, RowIn w0 w env r
  gs : ∀ r ∈ rows, ∀ v g, env[r.kv]? = some v → v.ownBlock = some g → g ∉ gs
  pw : rows.Pairwise fun r s => ∀ v u g, env[r.kv]? = some v → env[s.kv]? = some u → v.ownBlock = some g → u.ownBlock ≠ some g

/-- the state (a, w), in a call that began in w0, is as st tells, of the values env and the addresses gs -/
structure Den (w0 : World) (st : Sym) (env : List Value) (gs : List Nat) (a : Act) (w : World) : Prop where
  n : env.length = st.n
  gl : gs.length = st.blocks.length
  sl : a.tmps.size = st.slots.length
  slots : ∀ t x, st.slots[t]? = some x → x ≠ .any → a.tmps.getD t undef = x.den env gs ∧ x.OK env gs
  mem : St w0 w (bsD env gs st.blocks)
  bok : ∀ b ∈ st.blocks, ∀ s ∈ b.1, s.OK env gs
  df : a.defers = []
  rws : RowsOK w0 w env gs st.rows

def constS : Value → SV
  | .agg cs => if cs.toList.all (·.oneCell') then .leaf (.agg [.lit cs.toList]) else .any
  | .tuple _ => .any
  | v => .leaf (.atom (.const v))
def opd (st : Sym) : Operand → SV
  | .tmp t => st.slots.getD t .any
  | .const v => constS v
  | .func f => .leaf (.atom (.clo (.func f) []))
  | .global _ => .any

section
variable {P : Program} {w0 : World} {st : Sym} {env : List Value} {gs : List Nat} {a : Act} {w : World}

theorem Den.opd (h : Den w0 st env gs a w) {x : Operand} {v : SV} (hx : opd st x = v) (hv : v ≠ .any) : a.eval x = v.den env gs ∧ v.OK env gs := by
  subst hx
  cases x with
  | tmp t =>
    simp only [Proofs.Ytdpongijmmdnoaa.opd, List.getD] at hv ⊢
    cases ht : st.slots[t]? with
    | none => rw [ht] at hv; exact absurd rfl hv
    | some y => rw [ht] at hv; exact h.slots t y ht hv
  | const v =>
    show v = _ ∧ _
    cases v with
    | agg cs =>
      simp only [Proofs.Ytdpongijmmdnoaa.opd, constS] at hv ⊢
      by_cases ha : cs.toList.all (·.oneCell') = true
      · simp only [ha, if_true]
        refine ⟨by simp [SV.den, Leaf.den, catS, Seg.den], ?_⟩
        intro s hs
        simp only [List.mem_singleton] at hs
        subst hs
        exact fun x hx => List.all_eq_true.1 ha x hx
      · simp only [ha] at hv; exact absurd rfl hv
    | tuple vs => exact absurd rfl hv
    | _ => exact ⟨rfl, rfl⟩
  | global g => exact absurd rfl hv
  | func f => exact ⟨rfl, fun c hc => by cases hc⟩

/-! types -/
def tyN (P : Program) (ty : TypeId) : Option Nat := (P.info? ty).map (·.size)
def tyAgg (P : Program) (ty : TypeId) : Option Bool := (P.underlying ty).map fun d => match d with | .struct _ | .array _ _ => true | _ => false
def tyFld (P : Program) (ty : TypeId) (k : Nat) : Option (Nat × TypeId) :=
  match P.underlying ty with
  | some (.struct fs) => (fs[k]?).map fun f => (f.offset, f.type)
  | _ => none
def tyArr (P : Program) (ty : TypeId) : Option (Nat × TypeId) :=
  match P.underlying ty with
  | some (.array n el) => some (n, el)
  | _ => none
def tySlc (P : Program) (ty : TypeId) : Option TypeId :=
  match P.underlying ty with
  | some (.slice el) => some el
  | _ => none
def tyZero (P : Program) (ty : TypeId) : Option Value := (P.info? ty).bind (·.zero)

theorem tyN_run {ty : TypeId} {n : Nat} (h : tyN P ty = some n) (W : World) : (sizeOf ty).run P W = .ok n W := by
  unfold tyN at h
  cases hq : P.info? ty with
  | none => simp [hq] at h
  | some i => simp [hq] at h; simp [sizeOf, typeInfo, Sem.run_bind, hq, h]
theorem tyAgg_run {ty : TypeId} {b : Bool} (h : tyAgg P ty = some b) (W : World) : (isAgg ty).run P W = .ok b W := by
  unfold tyAgg at h
  cases hu : P.underlying ty with
  | none => simp [hu] at h
  | some d => simp [hu] at h; cases d <;> simp_all [isAgg, Sem.run_bind, run_underlying hu W]
theorem tyZero_run {ty : TypeId} {v : Value} (h : tyZero P ty = some v) (W : World) : (zeroValue ty).run P W = .ok v W := by
  unfold tyZero at h
  cases hq : P.info? ty with
  | none => simp [hq] at h
  | some i => simp [hq] at h; simp [zeroValue, typeInfo, Sem.run_bind, hq, h]
theorem tyAgg_size {ty : TypeId} {n : Nat} (h : tyAgg P ty = some true) (hn : tyN P ty = some n) : AggSize P ty n := by
  unfold tyAgg at h
  cases hu : P.underlying ty with
  | none => simp [hu] at h
  | some d =>
    simp [hu] at h
    exact ⟨d, hu, by cases d <;> simp_all, hn⟩

/-! cells of a row -/
def cellS : List Seg → Option Atom
  | [.one a] => some a
  | [.whole k _] => some (.cell k 0)
  | [.part k o _] => some (.cell k o)
  | [.lit [v]] => some (.const v)
  | _ => none
theorem cellS_ok {l r : List Seg} {off : Nat} {x : Atom} (hc : cutS l off 1 = some r) (hx : cellS r = some x) (hl : ∀ s ∈ l, s.OK env gs) : (flat env gs l)[off]? = some (x.den env gs) ∧ x.OK env gs := by
  obtain ⟨h1, h2, h3⟩ := cutS_ok l off 1 r hc hl
  have hlen : off < (flat env gs l).length := by omega
  have e : (flat env gs l)[off]? = (flat env gs r)[0]? := by rw [h1]; simp [hlen]
  have hr1 : (flat env gs r).length = 1 := by rw [h1]; simp; omega
  rw [e]
  match r, hx, hr1, h3 with
  | [.one a], hx, _, h3 => cases hx; exact ⟨rfl, (h3 (.one _) (by simp)).1⟩
  | [.whole k n], hx, hr1, h3 =>
    cases hx
    have h4 : AggN env k n := (h3 (.whole k n) (by simp)).1
    have h5 := h4.cells.1
    simp only [flat, List.flatMap_cons, List.flatMap_nil, List.append_nil, Seg.den] at hr1 ⊢
    refine ⟨?_, ⟨n, h4, by omega⟩⟩
    simp only [Atom.den, List.getD]
    rw [List.getElem?_eq_getElem (by omega)]; rfl
  | [.part k o n], hx, hr1, h3 =>
    cases hx
    obtain ⟨m, h4, h5⟩ : ∃ m, AggN env k m ∧ o + n ≤ m := (h3 (.part k o n) (by simp)).1
    have h6 := h4.cells.1
    simp only [flat, List.flatMap_cons, List.flatMap_nil, List.append_nil, Seg.den, List.length_take, List.length_drop] at hr1 ⊢
    refine ⟨?_, ⟨m, h4, by omega⟩⟩
    have hn : 0 < n := by omega
    simp only [Atom.den, List.getD, List.getElem?_take, List.getElem?_drop, hn, if_true, Nat.add_zero]
    rw [List.getElem?_eq_getElem (by omega)]; rfl
  | [.lit [v]], hx, _, h3 => cases hx; exact ⟨rfl, ((h3 (.lit [v]) (by simp)).1 : ∀ x ∈ [v], x.oneCell' = true) v (by simp)⟩

/-- a part of a row, as type ty -/
def partS (P : Program) (ty : TypeId) (l : List Seg) (off : Nat) : Option SV :=
  match tyAgg P ty with
  | some true => (tyN P ty).bind fun n => (cutS l off n).map fun r => .leaf (.agg r)
  | some false => (cutS l off 1).bind fun r => (cellS r).map fun x => .leaf (.atom x)
  | none => none
theorem partS_ok {ty : TypeId} {l : List Seg} {off : Nat} {v : SV} (h : partS P ty l off = some v) (hl : ∀ s ∈ l, s.OK env gs) :
    v ≠ .any ∧ v.OK env gs ∧ ((∃ n, AggSize P ty n ∧ (n = 0 ∨ off + n ≤ (flat env gs l).length) ∧ v.den env gs = .agg (((flat env gs l).drop off).take n).toArray) ∨
      ((∀ W, (isAgg ty).run P W = .ok false W) ∧ (flat env gs l)[off]? = some (v.den env gs))) := by
  unfold partS at h
  split at h
  · rename_i ha
    obtain ⟨n, hn, h⟩ := Option.bind_eq_some_iff.1 h
    obtain ⟨r, hr, rfl⟩ := Option.map_eq_some_iff.1 h
    obtain ⟨h1, h2, h3⟩ := cutS_ok l off n r hr hl
    refine ⟨by simp, fun s hs => (h3 s hs).1, .inl ⟨n, tyAgg_size ha hn, h2, ?_⟩⟩
    simp only [SV.den, Leaf.den, catS_flat, h1]
  · rename_i ha
    obtain ⟨r, hr, h⟩ := Option.bind_eq_some_iff.1 h
    obtain ⟨x, hx, rfl⟩ := Option.map_eq_some_iff.1 h
    obtain ⟨h1, h2⟩ := cellS_ok hr hx hl
    exact ⟨by simp, h2, .inr ⟨tyAgg_run ha, h1⟩⟩
  · cases h

theorem bsD_get (hgl : gs.length = st.blocks.length) {b : Nat} {blk : Blk} (hb : st.blocks[b]? = some blk) : (bsD env gs st.blocks)[b]? = some (gs.getD b 0, catS env gs blk.1, blk.2) := by
  have hlt : b < st.blocks.length := (List.getElem?_eq_some_iff.1 hb).1
  have hg : gs[b]? = some (gs.getD b 0) := by simp [List.getD, List.getElem?_eq_getElem (show b < gs.length by omega)]
  unfold bsD
  rw [List.getElem?_zipWith, hg, hb]

theorem Den.own (h : Den w0 st env gs a w) {b : Nat} {blk : Blk} (hb : st.blocks[b]? = some blk) {W : World} (hW : Fut w W) : Own W (gs.getD b 0) (flat env gs blk.1) blk.2 := by
  have := h.mem.get b (bsD_get (env := env) h.gl hb)
  rw [catS_flat] at this
  exact this.fut hW

theorem Den.segs (h : Den w0 st env gs a w) {b : Nat} {blk : Blk} (hb : st.blocks[b]? = some blk) : ∀ s ∈ blk.1, s.OK env gs := h.bok _ (List.mem_of_getElem? hb)

/-- yields in every world to come -/
def YF (P : Program) (o : Oper) (a : Act) (w : World) (v : Value) : Prop := ∀ W, Fut w W → (execOp a.eval o).run P W = .ok (.value v) W

theorem yf_move {o : Oper} {x : Operand} (hop : o.op = .move x ∨ o.op = .assign x) {v : Value} (hx : a.eval x = v) : YF P o a w v := by
  intro W _
  rcases hop with hop | hop <;> simp only [execOp, hop, hx, Sem.run_pure]

theorem yf_load (h : Den w0 st env gs a w) {o : Oper} {ty : TypeId} {x : Operand} (hop : o.op = .load ty x) {b off : Nat} (hx : opd st x = .leaf (.atom (.ptr b off))) {blk : Blk} (hb : st.blocks[b]? = some blk)
    {v : SV} (hv : partS P ty blk.1 off = some v) : YF P o a w (v.den env gs) := by
  intro W hW
  have e := (h.opd hx (by simp)).1
  simp only [SV.den, Leaf.den, Atom.den] at e
  have hO := h.own hb hW
  obtain ⟨_, _, h3⟩ := partS_ok hv (h.segs hb)
  rcases h3 with ⟨n, h4, h5, h6⟩ | ⟨h4, h5⟩
  · by_cases hn : n = 0
    · subst hn
      obtain ⟨d, hu, hd, hi⟩ := h4
      have hagg : (isAgg ty).run P W = .ok true W := by
        unfold isAgg
        rw [Sem.run_bind, run_underlying hu W]
        cases d <;> simp_all
      cases hq : P.info? ty with
      | none => simp [hq] at hi
      | some i =>
        have hs : i.size = 0 := by simpa [hq] using hi
        unfold execOp
        simp only [hop, e, Instr.loadAt, Instr.sureAddr, Sem.run_bind, Sem.run_pure, Result.andThen_ok, loadVar, hagg, if_true, sizeOf, typeInfo, run_program, hq, hs, h6]
        simp [loadCells, loadCellsFrom, hs]
    · have h5' := h5.resolve_left hn
      unfold execOp
      simp only [hop, e, Instr.loadAt, Instr.sureAddr, Sem.run_bind, Sem.run_pure, Result.andThen_ok, run_loadVar_own W _ off _ ty _ n hO h4 h5', h6]
  · have := hO.cell_of off h5
    unfold execOp
    simp only [hop, e, Instr.loadAt, Instr.sureAddr, Sem.run_bind, Sem.run_pure, Result.andThen_ok, loadVar, h4, Bool.false_eq_true, if_false, run_load, this]

theorem run_partS {ty : TypeId} {l : List Seg} {off : Nat} {v : SV} (hv : partS P ty l off = some v) (hl : ∀ s ∈ l, s.OK env gs) (W : World) : (part ty (flat env gs l).toArray off).run P W = .ok (v.den env gs) W := by
  obtain ⟨_, _, h3⟩ := partS_ok hv hl
  unfold part
  rcases h3 with ⟨n, ⟨d, hu, hd, hi⟩, h5, h6⟩ | ⟨h4, h5⟩
  · have hagg : (isAgg ty).run P W = .ok true W := by
      unfold isAgg
      rw [Sem.run_bind, run_underlying hu W]
      cases d <;> simp_all
    simp only [Sem.run_bind, hagg, Result.andThen_ok, if_true, tyN_run hi, Sem.run_pure, h6]
    congr 2
    apply Array.ext'
    simp [List.extract_eq_take_drop]
  · simp only [Sem.run_bind, h4, Result.andThen_ok, Bool.false_eq_true, if_false]
    simp [h5]

theorem yf_field (h : Den w0 st env gs a w) {o : Oper} {ty fty : TypeId} {x : Operand} {k off : Nat} (hop : o.op = .field ty x k) {l : List Seg} (hx : opd st x = .leaf (.agg l)) (hf : tyFld P ty k = some (off, fty))
    {v : SV} (hv : partS P fty l off = some v) : YF P o a w (v.den env gs) := by
  intro W hW
  obtain ⟨e, ho⟩ := h.opd hx (by simp)
  simp only [SV.den, Leaf.den, catS_flat] at e
  unfold tyFld at hf
  split at hf
  · rename_i fs hu
    obtain ⟨f, hf', he⟩ := Option.map_eq_some_iff.1 hf
    cases he
    clear hf
    unfold execOp
    simp only [hop, e, Instr.field, Sem.run_bind, run_underlying hu, Result.andThen_ok, hf', asAgg, Sem.run_pure, run_partS hv ho]
  · cases hf

theorem yf_fieldAddr (h : Den w0 st env gs a w) {o : Oper} {ty fty : TypeId} {x : Operand} {k off b d n : Nat} (hop : o.op = .fieldAddr ty x k) (hx : opd st x = .leaf (.atom (.ptr b d))) (hf : tyFld P ty k = some (off, fty))
    (hn : tyN P fty = some n) (h0 : (n == 0) = false) : YF P o a w (.pointer (some ⟨gs.getD b 0, d + off, none⟩)) := by
  intro W hW
  have e := (h.opd hx (by simp)).1
  simp only [SV.den, Leaf.den, Atom.den] at e
  unfold tyFld at hf
  split at hf
  · rename_i fs hu
    obtain ⟨f, hf', he⟩ := Option.map_eq_some_iff.1 hf
    cases he
    clear hf
    have h0' : n ≠ 0 := by simpa using h0
    unfold execOp
    simp only [hop, e, Instr.fieldAt, Sem.run_bind, run_underlying hu, Result.andThen_ok, hf', Instr.sureAddr, Sem.run_pure, fieldPlace, tyN_run hn, h0', if_false, addr_add]
  · cases hf

theorem yf_fieldAddrI (h : Den w0 st env gs a w) {o : Oper} {ty fty : TypeId} {x : Operand} {k off b d n j sc : Nat} (hop : o.op = .fieldAddr ty x k) (hx : opd st x = .leaf (.atom (.iptr b d j sc))) (hf : tyFld P ty k = some (off, fty))
    (hn : tyN P fty = some n) (h0 : (n == 0) = false) : YF P o a w ((Atom.iptr b (d + off) j sc).den env gs) := by
  intro W hW
  have e := (h.opd hx (by simp)).1
  simp only [SV.den, Leaf.den, Atom.den] at e
  unfold tyFld at hf
  split at hf
  · rename_i fs hu
    obtain ⟨f, hf', he⟩ := Option.map_eq_some_iff.1 hf
    cases he
    clear hf
    have h0' : n ≠ 0 := by simpa using h0
    unfold execOp
    simp only [hop, e, Instr.fieldAt, Sem.run_bind, run_underlying hu, Result.andThen_ok, hf', Instr.sureAddr, Sem.run_pure, fieldPlace, tyN_run hn, h0', if_false, addr_add, Atom.den]
    congr 4
    simp
  · cases hf

theorem yf_indexArr (h : Den w0 st env gs a w) {o : Oper} {ty el : TypeId} {x i : Operand} {cnt b d n : Nat} {k : IntKind} {m : Int} (hop : o.op = .indexAddr ty x i) (hx : opd st x = .leaf (.atom (.ptr b d)))
    (hi : opd st i = .leaf (.atom (.const (.int k m)))) (ha : tyArr P ty = some (cnt, el)) (hn : tyN P el = some n) (hm : 0 ≤ m ∧ m < cnt) : YF P o a w (.pointer (some ⟨gs.getD b 0, d + m.toNat * n, none⟩)) := by
  intro W hW
  have e := (h.opd hx (by simp)).1
  have e2 := (h.opd hi (by simp)).1
  simp only [SV.den, Leaf.den, Atom.den] at e e2
  unfold tyArr at ha
  split at ha
  · rename_i c el' hu
    cases ha
    unfold execOp
    simp only [hop, e, e2, Instr.indexAt, asIntOf, Sem.run_bind, run_underlying hu, Result.andThen_ok, Instr.sureAddr, Sem.run_pure, tyN_run hn, hm, and_self, if_true, addr_add]
  · cases ha

theorem yf_indexSlc (h : Den w0 st env gs a w) {o : Oper} {ty el : TypeId} {x i : Operand} {b d len cap n : Nat} {k : IntKind} {m : Int} (hop : o.op = .indexAddr ty x i) (hx : opd st x = .leaf (.atom (.slc b d len cap)))
    (hi : opd st i = .leaf (.atom (.const (.int k m)))) (ha : tySlc P ty = some el) (hn : tyN P el = some n) (hm : 0 ≤ m ∧ m < len) : YF P o a w (.pointer (some ⟨gs.getD b 0, d + m.toNat * n, none⟩)) := by
  intro W hW
  have e := (h.opd hx (by simp)).1
  have e2 := (h.opd hi (by simp)).1
  simp only [SV.den, Leaf.den, Atom.den] at e e2
  unfold tySlc at ha
  split at ha
  · rename_i el' hu
    cases ha
    unfold execOp
    simp only [hop, e, e2, Instr.indexAt, asIntOf, Sem.run_bind, run_underlying hu, Result.andThen_ok, Sem.run_pure, tyN_run hn, hm, and_self, if_true, addr_add]
  · cases ha

/-- a bound of a slice: none, or a constant -/
def bndS (st : Sym) (d : Nat) : Option Operand → Option Nat
  | none => some d
  | some x =>
    match opd st x with
    | .leaf (.atom (.const (.int _ m))) => if 0 ≤ m then some m.toNat else none
    | _ => none
theorem bndS_ok (h : Den w0 st env gs a w) {d c top : Nat} {x : Option Operand} (hb : bndS st d x = some c) (hc : c ≤ top) (code : BoundsCode) (W : World) :
    (match x.map a.eval with | some v => Instr.sliceBound v top code | none => pure d).run P W = .ok c W := by
  cases x with
  | none => simp only [bndS] at hb; cases hb; rfl
  | some x =>
    simp only [bndS] at hb
    split at hb
    · rename_i kd m hx
      split at hb
      · rename_i h0
        cases hb
        have e := (h.opd hx (by simp)).1
        simp only [SV.den, Leaf.den, Atom.den] at e
        have h1 : m ≤ (top : Int) := by omega
        simp only [Option.map_some, e, Instr.sliceBound, asIntOf, Sem.run_bind, Sem.run_pure, Result.andThen_ok, h0, h1, and_self, if_true]
      · cases hb
    · cases hb

theorem yf_sliceArr (h : Den w0 st env gs a w) {o : Oper} {ty el : TypeId} {x : Operand} {lo hi : Option Operand} {b d cnt n l u : Nat} (hop : o.op = .slice ty x lo hi none) (hx : opd st x = .leaf (.atom (.ptr b d)))
    (ha : tyArr P ty = some (cnt, el)) (hn : tyN P el = some n) (hl : bndS st 0 lo = some l) (hu' : bndS st cnt hi = some u) (h1 : l ≤ u) (h2 : u ≤ cnt) :
    YF P o a w (.slice (some ⟨gs.getD b 0, if cnt = l then d else d + l * n, none⟩) (u - l) (cnt - l)) := by
  intro W hW
  have e := (h.opd hx (by simp)).1
  simp only [SV.den, Leaf.den, Atom.den] at e
  unfold tyArr at ha
  split at ha
  · rename_i c el' hu
    cases ha
    have q1 := bndS_ok (P := P) h hu' h2 .sliceAlen W
    have q2 := bndS_ok (P := P) h hl h1 .sliceB W
    unfold execOp
    simp only [hop, e, Instr.sliceAt, Sem.run_bind, run_underlying hu, Result.andThen_ok, Instr.sureAddr, Sem.run_pure, tyN_run hn, Option.map_none]
    have q3 : (Instr.sliceBounds false cnt cnt (lo.map a.eval) (hi.map a.eval) none).run P W = .ok (l, u, cnt) W := by
      unfold Instr.sliceBounds
      cases lo <;> cases hi <;> simp_all [Sem.run_bind]
    simp only [q3, Result.andThen_ok, tyN_run hn, Sem.run_pure, addr_add]
    congr 3
    split <;> rfl
  · cases ha

theorem yf_toArr (h : Den w0 st env gs a w) {o : Oper} {ty el : TypeId} {x : Operand} {b d len cap cnt : Nat} (hop : o.op = .sliceToArrayPointer ty x) (hx : opd st x = .leaf (.atom (.slc b d len cap)))
    (ha : tyArr P ty = some (cnt, el)) (hc : cnt ≤ len) : YF P o a w (.pointer (some ⟨gs.getD b 0, d, none⟩)) := by
  intro W hW
  have e := (h.opd hx (by simp)).1
  simp only [SV.den, Leaf.den, Atom.den] at e
  unfold tyArr at ha
  split at ha
  · rename_i c el' hu
    cases ha
    unfold execOp
    have h1 : ¬ len < cnt := by omega
    simp only [hop, e, Instr.arrayAt, Sem.run_bind, run_underlying hu, Result.andThen_ok, Sem.run_pure, h1, if_false]
  · cases ha

theorem yf_extract (h : Den w0 st env gs a w) {o : Oper} {x : Operand} {k : Nat} (hop : o.op = .extract x k) {l : List Leaf} (hx : opd st x = .tup l) {y : Leaf} (hy : l[k]? = some y) : YF P o a w (y.den env gs) := by
  intro W hW
  have e := (h.opd hx (by simp)).1
  simp only [SV.den] at e
  unfold execOp
  simp only [hop, e, Instr.extract, Sem.run_bind]
  simp [hy]

def ptrOf (st : Sym) (x : Operand) : Option (Nat × Nat) :=
  match opd st x with
  | .leaf (.atom (.ptr b o)) => some (b, o)
  | _ => none
theorem ptrsOf_ok (h : Den w0 st env gs a w) : ∀ (l : List Operand) (cs : List (Nat × Nat)), l.mapM (ptrOf st) = some cs → l.map a.eval = cs.map (fun c => Value.pointer (some ⟨gs.getD c.1 0, c.2, none⟩)) ∧ ∀ c ∈ cs, c.1 < gs.length
  | [], cs, hm => by simp at hm; subst hm; simp
  | x :: l, cs, hm => by
    simp only [List.mapM_cons, Option.bind_eq_bind, Option.pure_def, Option.bind_eq_some_iff] at hm
    obtain ⟨c, hc, r, hr, he⟩ := hm
    cases he
    obtain ⟨h1, h2⟩ := ptrsOf_ok h l r hr
    unfold ptrOf at hc
    split at hc
    · rename_i b o' hx
      cases hc
      obtain ⟨e, ok⟩ := h.opd hx (by simp)
      refine ⟨by simp [h1, e, SV.den, Leaf.den, Atom.den], ?_⟩
      intro c hc
      rcases List.mem_cons.1 hc with rfl | hc
      · exact ok
      · exact h2 c hc
    · cases hc

theorem yf_makeFunc (h : Den w0 st env gs a w) {o : Oper} {fn : Fn} {caps : Array Operand} (hop : o.op = .makeFunc fn #[] caps) {cs : List (Nat × Nat)} (hc : caps.toList.mapM (ptrOf st) = some cs) :
    YF P o a w ((Atom.clo fn cs).den env gs) := by
  intro W hW
  obtain ⟨h1, _⟩ := ptrsOf_ok h _ _ hc
  unfold execOp
  have e : caps.map a.eval = (cs.map (fun c => Value.pointer (some ⟨gs.getD c.1 0, c.2, none⟩))).toArray := by
    apply Array.ext'; simpa using h1
  simp only [hop, Instr.makeFunc, Sem.run_bind, Sem.run_pure, Result.andThen_ok, e, Atom.den]
  simp

/-! built of parts -/
def Leaf.segs : Leaf → List Seg
  | .atom a => [.one a]
  | .agg l => l
theorem Leaf.segs_ok {x : Leaf} (hx : x.OK env gs) : (∀ s ∈ x.segs, s.OK env gs) ∧ (x.den env gs).cells = (flat env gs x.segs).toArray := by
  cases x with
  | atom a =>
    refine ⟨fun s hs => by simp only [Leaf.segs, List.mem_singleton] at hs; subst hs; exact hx, ?_⟩
    have := Atom.one hx
    simp only [Leaf.den, Leaf.segs, flat, List.flatMap_cons, List.flatMap_nil, List.append_nil, Seg.den]
    generalize a.den env gs = v at this
    cases v <;> first | rfl | simp [Value.oneCell'] at this
  | agg l => exact ⟨hx, by simp only [Leaf.den, Value.cells, catS_flat, Leaf.segs]⟩

def fillS (place : Nat → Option (Nat × Nat)) : List Seg → List (Nat × Leaf) → Option (List Seg)
  | l, [] => some l
  | l, (i, x) :: r =>
    (place i).bind fun p => if x.segs.all Seg.known && segsLen x.segs == p.2 then (putS l p.1 x.segs p.2).bind fun l' => fillS place l' r else none
theorem fillS_ok {place : Nat → Option (Nat × Nat)} : ∀ (pv : List (Nat × Leaf)) (l out : List Seg), fillS place l pv = some out → (∀ s ∈ l, s.OK env gs) → (∀ x ∈ pv, x.2.OK env gs) →
    Instr.fill place (flat env gs l).toArray (pv.map fun x => (x.1, x.2.den env gs)) = some (flat env gs out).toArray ∧ ∀ s ∈ out, s.OK env gs
  | [], l, out, h, hl, _ => by simp only [fillS] at h; cases h; exact ⟨rfl, hl⟩
  | (i, x) :: r, l, out, h, hl, hp => by
    simp only [fillS] at h
    obtain ⟨p, hpl, h⟩ := Option.bind_eq_some_iff.1 h
    split at h
    · rename_i hc
      simp only [Bool.and_eq_true, beq_iff_eq, List.all_eq_true] at hc
      obtain ⟨l', hl', hrec⟩ := Option.bind_eq_some_iff.1 h
      clear h
      have hx := hp (i, x) (by simp)
      obtain ⟨s1, s2⟩ := Leaf.segs_ok hx
      obtain ⟨q1, q2, q3⟩ := putS_ok hl' hl s1
      have hlen : (flat env gs x.segs).length = p.2 := by rw [flat_len hc.1 s1]; exact hc.2
      obtain ⟨off, n⟩ := p
      simp only at hlen q1 q2
      have := fillS_ok r l' out hrec q3 fun y hy => hp y (List.mem_cons_of_mem _ hy)
      rw [List.map_cons, fill_one (off := off) (vs := flat env gs x.segs) (by rw [hpl, hlen]) s2 (by omega)]
      rw [q1] at this
      rw [hlen]
      exact this
    · cases h

theorem run_mapM {α β : Type} {f : α → Sem β} {g : α → β} : ∀ (l : List α), (∀ x ∈ l, ∀ W, (f x).run P W = .ok (g x) W) → ∀ W, (l.mapM f).run P W = .ok (l.map g) W
  | [], _, W => by simp
  | x :: l, h, W => by
    simp only [List.mapM_cons, Sem.run_bind, h x (by simp), Result.andThen_ok, run_mapM l (fun y hy => h y (List.mem_cons_of_mem _ hy)), Sem.run_pure, List.map_cons]
theorem run_mapM_arr {α β : Type} {f : α → Sem β} {g : α → β} (l : Array α) (h : ∀ x ∈ l, ∀ W, (f x).run P W = .ok (g x) W) (W : World) : (l.mapM f).run P W = .ok (l.map g) W := by
  rw [Array.mapM_eq_mapM_toList]
  simp only [Sem.run_map, run_mapM l.toList (g := g) (fun x hx => h x (by simpa using hx)), Result.andThen_ok]
  congr 1
  apply Array.ext'; simp

/-- where the fields of a struct, or the elements of an array, lie -/
def placesS (P : Program) (ty : TypeId) : Option (Nat → Option (Nat × Nat)) :=
  match P.underlying ty with
  | some (.struct fs) => if fs.toList.all (fun f => (tyN P f.type).isSome) then some (fun k => (fs[k]?).map fun f => (f.offset, (tyN P f.type).getD 0)) else none
  | some (.array _ el) => (tyN P el).map fun n i => some (i * n, n)
  | _ => none

def leafOf (st : Sym) (x : Operand) : Option Leaf :=
  match opd st x with
  | .leaf y => some y
  | _ => none
theorem leavesOf_ok (h : Den w0 st env gs a w) : ∀ (l : List (Nat × Operand)) (pv : List (Nat × Leaf)), l.mapM (fun p => (leafOf st p.2).map fun y => (p.1, y)) = some pv →
    (l.map fun p => (p.1, a.eval p.2)) = pv.map (fun x => (x.1, x.2.den env gs)) ∧ ∀ x ∈ pv, x.2.OK env gs
  | [], pv, hm => by simp at hm; subst hm; simp
  | x :: l, pv, hm => by
    simp only [List.mapM_cons, Option.bind_eq_bind, Option.pure_def, Option.bind_eq_some_iff] at hm
    obtain ⟨c, hc, r, hr, he⟩ := hm
    cases he
    obtain ⟨h1, h2⟩ := leavesOf_ok h l r hr
    obtain ⟨y, hy, rfl⟩ := Option.map_eq_some_iff.1 hc
    unfold leafOf at hy
    split at hy
    · rename_i z hz
      cases hy
      obtain ⟨e, ok⟩ := h.opd hz (by simp)
      refine ⟨by simp only [List.map_cons, h1, e]; rfl, ?_⟩
      intro c hc
      rcases List.mem_cons.1 hc with rfl | hc
      · exact ok
      · exact h2 c hc
    · cases hy

def zeroS (P : Program) (ty : TypeId) : Option (List Value) := (tyZero P ty).bind fun z => if z.cells.toList.all (·.oneCell') then some z.cells.toList else none
def buildS (P : Program) (st : Sym) (ty : TypeId) (parts : Array (Nat × Operand)) : Option (List Seg) :=
  (zeroS P ty).bind fun z => (placesS P ty).bind fun pl => (parts.toList.mapM fun p => (leafOf st p.2).map fun y => (p.1, y)).bind fun pv => fillS pl [.lit z] pv

theorem zeroS_ok {ty : TypeId} {z : List Value} (h : zeroS P ty = some z) : ∃ v : Value, tyZero P ty = some v ∧ v.cells = z.toArray ∧ ∀ x ∈ z, x.oneCell' = true := by
  unfold zeroS at h
  obtain ⟨v, hv, h⟩ := Option.bind_eq_some_iff.1 h
  split at h
  · rename_i ha
    cases h
    exact ⟨v, hv, by apply Array.ext'; simp, fun x hx => List.all_eq_true.1 ha x hx⟩
  · cases h

theorem yf_build (h : Den w0 st env gs a w) {o : Oper} {ty : TypeId} {parts : Array (Nat × Operand)} (hop : o.op = .build ty parts) {out : List Seg} (hb : buildS P st ty parts = some out) :
    YF P o a w (.agg (catS env gs out).toArray) ∧ ∀ s ∈ out, s.OK env gs := by
  unfold buildS at hb
  obtain ⟨z, hz, hb⟩ := Option.bind_eq_some_iff.1 hb
  obtain ⟨pl, hpl, hb⟩ := Option.bind_eq_some_iff.1 hb
  obtain ⟨pv, hpv, hb⟩ := Option.bind_eq_some_iff.1 hb
  obtain ⟨v, hv, hvc, hvo⟩ := zeroS_ok hz
  obtain ⟨p1, p2⟩ := leavesOf_ok h _ _ hpv
  have hzo : ∀ s ∈ [Seg.lit z], s.OK env gs := by intro s hs; simp only [List.mem_singleton] at hs; subst hs; exact hvo
  obtain ⟨f1, f2⟩ := fillS_ok pv [.lit z] out hb hzo p2
  have hfl : flat env gs [Seg.lit z] = z := by simp [flat, Seg.den]
  rw [hfl] at f1
  refine ⟨?_, f2⟩
  intro W hW
  have e : (parts.map fun (x : Nat × Operand) => (x.1, a.eval x.2)).toList = pv.map (fun x => (x.1, x.2.den env gs)) := by simpa using p1
  unfold execOp
  simp only [hop]
  unfold Instr.build
  unfold placesS at hpl
  split at hpl
  · rename_i fs hu
    split at hpl
    · rename_i hall
      cases hpl
      have hm := run_mapM_arr (P := P) (f := fun f : Field => (do pure (f.offset, ← sizeOf f.type) : Sem (Nat × Nat))) (g := fun f : Field => (f.offset, (tyN P f.type).getD 0)) fs (fun f hf W => by
        have := List.all_eq_true.1 hall f (by simpa using hf)
        obtain ⟨n, hn⟩ := Option.isSome_iff_exists.1 this
        simp [Sem.run_bind, tyN_run hn, hn])
      have eg : (fun k : Nat => (fs.map (fun f : Field => (f.offset, (tyN P f.type).getD 0)))[k]?) = (fun k => (fs[k]?).map fun f : Field => (f.offset, (tyN P f.type).getD 0)) := by funext k; simp
      simp only [Sem.run_bind, tyZero_run hv, Result.andThen_ok, run_underlying hu, hm, hvc, e, eg, f1, Sem.run_pure, catS_flat]
    · cases hpl
  · rename_i c el hu
    obtain ⟨n, hn, rfl⟩ := Option.map_eq_some_iff.1 hpl
    simp only [Sem.run_bind, tyZero_run hv, Result.andThen_ok, run_underlying hu, tyN_run hn, hvc, e, f1, Sem.run_pure, catS_flat]
  · cases hpl
end
end Go.Proofs.Ytdpongijmmdnoaa
