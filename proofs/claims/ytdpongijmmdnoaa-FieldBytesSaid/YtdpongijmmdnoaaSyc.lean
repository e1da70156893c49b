/- What a function computes, as a tree of calls over variables, and what is to be shown of a tree. Over any program. -/
import Derived.Test.YtdpongijmmdnoaaSyb
namespace Go.Proofs.Ytdpongijmmdnoaa
open Go.RowKit

def Atom.shift (dn db : Nat) : Atom → Atom
  | .const v => .const v
  | .var k => .var (k + dn)
  | .cell k i => .cell (k + dn) i
  | .ptr b o => .ptr (b + db) o
  | .slc b o len cap => .slc (b + db) o len cap
  | .clo fn caps => .clo fn (caps.map fun c => (c.1 + db, c.2))
  | .iptr b o k sc => .iptr (b + db) o (k + dn) sc
  | .slcx b o k => .slcx (b + db) o (k + dn)
def Seg.shift (dn db : Nat) : Seg → Seg
  | .whole k n => .whole (k + dn) n
  | .part k o n => .part (k + dn) o n
  | .lit l => .lit l
  | .one a => .one (a.shift dn db)
  | .rest k => .rest (k + dn)
  | .junk k => .junk (k + dn)
def Leaf.shift (dn db : Nat) : Leaf → Leaf
  | .atom a => .atom (a.shift dn db)
  | .agg l => .agg (l.map (Seg.shift dn db))
def SV.shift (dn db : Nat) : SV → SV
  | .any => .any
  | .leaf x => .leaf (x.shift dn db)
  | .tup l => .tup (l.map (Leaf.shift dn db))
def shiftB (dn db : Nat) (l : List Blk) : List Blk := l.map fun b => (b.1.map (Seg.shift dn db), b.2)

/-- what a call, or an operation, gives: a value over n new variables, and new blocks -/
structure Spec where
  r : SV
  n : Nat
  nb : List Blk
inductive Ans where
  | one (s : Spec)
  | two (s t : Spec)
/-- what turns from round to round: a slot, a block; its pieces: of so many cells, or a value -/
inductive Kd where
  | one
  | agg (n : Nat)
  | row
inductive Item where
  | slot (t : Tmp) (pcs : List Kd)
  | blk (b : Nat) (pcs : List Kd)
  | row (t : Tmp) (T : TypeId) (sz : Nat)
structure Orc where
  ans : List (Tmp × Ans)
  lps : List (Nat × List Item)

/-- what of memory is told: the blocks, the rows -/
abbrev Mem := List Blk × List RowS
inductive Tree where
  | ret (bl : Mem) (v : SV)
  | call (f : FuncId) (args : List Leaf) (bl : Mem) (r : SV) (n : Nat) (nb : List Blk) (k : Tree)
  | call2 (f : FuncId) (args : List Leaf) (bl : Mem) (r : SV) (n : Nat) (nb : List Blk) (k : Tree) (r' : SV) (n' : Nat) (nb' : List Blk) (k' : Tree)
  | calc (op : Op) (ty : TypeId) (ev : List (Tmp × SV)) (bl : Mem) (r : SV) (n : Nat) (k : Tree)
  | calc2 (op : Op) (ty : TypeId) (ev : List (Tmp × SV)) (bl : Mem) (r : SV) (n : Nat) (k : Tree) (r' : SV) (n' : Nat) (k' : Tree)
  | new (k : Tree)
  | ite (a : Atom) (k k' : Tree)
  | loop (init : List Leaf) (ks : List Kd) (body : Tree)
  | app (kc : Option Nat) (new : List Seg) (t : Tree)
  | again (j : Nat) (vals : List Leaf)
  | bound (k cnt : Nat) (t : Tree)
  | boundx (k j : Nat) (t : Tree)
  | ldi (l : List Seg) (off k sc n : Nat) (agg : Bool) (t : Tree)
  | sti (l : List Seg) (off k sc n : Nat) (new : List Seg) (t : Tree)

/-- blocks made behind W, in w', no two the same -/
def NewB (W w' : World) (bs : List (Nat × List Value × TypeId)) : Prop := (∀ x ∈ bs, W.heap.size ≤ x.1 ∧ Own w' x.1 x.2.1 x.2.2) ∧ bs.Pairwise fun x y => x.1 ≠ y.1
def bsA (env : List Value) (gs addrs : List Nat) (bl : List Blk) : List (Nat × List Value × TypeId) := List.zipWith (fun g (b : Blk) => (g, catS env gs b.1, b.2)) addrs bl

def KindOK (v : Value) : Kd → Prop
  | .agg n => ∃ cs : List Value, v = .agg cs.toArray ∧ cs.length = n ∧ ∀ x ∈ cs, x.oneCell' = true
  | .one => v.oneCell' = true
  | .row => ∃ cs : List Value, v = .agg cs.toArray ∧ ∀ x ∈ cs, x.oneCell' = true
def Mm (w0 W : World) (env : List Value) (gs : List Nat) (m : Mem) : Prop := St w0 W (bsD env gs m.1) ∧ ∀ r ∈ m.2, RowIn w0 W env r
def VarsOK (ks : List Kd) (vs : List Value) : Prop := vs.length = ks.length ∧ ∀ (j : Nat) k v, ks[j]? = some k → vs[j]? = some v → KindOK v k

/-- what is to be shown of a call's result -/
def Gives (P : Program) (f : FuncId) (args : List Value) (W : World) (env : List Value) (gs : List Nat) (r : SV) (n : Nat) (nb : List Blk) (K : List Value → List Nat → Prop) (e : Ending) (w' : World) : Prop :=
  ∃ vs gs', vs.length = n ∧ gs'.length = nb.length ∧ e = .returned (r.den (env ++ vs) (gs ++ gs')) ∧ r.OK (env ++ vs) (gs ++ gs') ∧ (∀ b ∈ nb, ∀ s ∈ b.1, s.OK (env ++ vs) (gs ++ gs')) ∧
    Fut W w' ∧ NewB W w' (bsA (env ++ vs) (gs ++ gs') gs' nb) ∧ K (env ++ vs) (gs ++ gs')
def Yields1 (P : Program) (w0 : World) (op : Op) (ty : TypeId) (ev : List (Tmp × SV)) (bl : Mem) (env : List Value) (gs : List Nat) (r : SV) (n : Nat) (K : List Value → List Nat → Prop) : Prop :=
  ∃ vs, vs.length = n ∧ r.OK (env ++ vs) gs ∧
    (∀ (o : Oper) (a : Act) (W : World), o.op = op → o.type = ty → (∀ x ∈ ev, a.eval (.tmp x.1) = x.2.den env gs) → Mm w0 W env gs bl →
      (execOp a.eval o).run P W = .ok (.value (r.den (env ++ vs) gs)) W) ∧ K (env ++ vs) gs

def TWp (P : Program) (w0 : World) (R : Ending → World → Prop) : Tree → List (List Value → Prop) → List Value → List Nat → Prop
  | .ret bl v, _, env, gs => ∀ W, Mm w0 W env gs bl → R (.returned (v.den env gs)) W
  | .call f args bl r n nb k, L, env, gs => ∀ W, Mm w0 W env gs bl → Calls P f (args.map (Leaf.den env gs)).toArray W (Gives P f (args.map (Leaf.den env gs)) W env gs r n nb (TWp P w0 R k L))
  | .call2 f args bl r n nb k r' n' nb' k', L, env, gs => ∀ W, Mm w0 W env gs bl → Calls P f (args.map (Leaf.den env gs)).toArray W fun e w' =>
      Gives P f (args.map (Leaf.den env gs)) W env gs r n nb (TWp P w0 R k L) e w' ∨ Gives P f (args.map (Leaf.den env gs)) W env gs r' n' nb' (TWp P w0 R k' L) e w'
  | .calc op ty ev bl r n k, L, env, gs => Yields1 P w0 op ty ev bl env gs r n (TWp P w0 R k L)
  | .calc2 op ty ev bl r n k r' n' k', L, env, gs => Yields1 P w0 op ty ev bl env gs r n (TWp P w0 R k L) ∨ Yields1 P w0 op ty ev bl env gs r' n' (TWp P w0 R k' L)
  | .new k, L, env, gs => ∀ g, TWp P w0 R k L env (gs ++ [g])
  | .ite x k k', L, env, gs => ∃ b, x.den env gs = .bool b ∧ (b = true → TWp P w0 R k L env gs) ∧ (b = false → TWp P w0 R k' L env gs)
  | .loop init ks body, L, env, gs => ∃ (I : List Value → Prop) (μ : List Value → Nat), I (init.map (Leaf.den env gs)) ∧
      ∀ vs, VarsOK ks vs → I vs → TWp P w0 R body (L ++ [fun us => I us ∧ μ us < μ vs]) (env ++ vs) gs
  | .again j vals, L, env, gs => ∃ p, L[j]? = some p ∧ p (vals.map (Leaf.den env gs))
  | .app kc new t, L, env, gs => ((match kc with | some k => cellsAt env k | none => []) ++ catS env gs new).length ≤ 1000000 ∧
      ∀ v : Value, v.oneCell' = true → TWp P w0 R t L (env ++ [v, .agg ((match kc with | some k => cellsAt env k | none => []) ++ catS env gs new).toArray]) gs
  | .bound k cnt t, L, env, gs => ∃ kd m, env[k]? = some (.int kd m) ∧ 0 ≤ m ∧ m < (cnt : Int) ∧ TWp P w0 R t L env gs
  | .boundx k j t, L, env, gs => ∃ kd m, env[k]? = some (.int kd m) ∧ 0 ≤ m ∧ m < (lenN (env.getD j undef) : Int) ∧ TWp P w0 R t L env gs
  | .ldi l off k sc n agg t, L, env, gs =>
    if agg then off + intN (env.getD k undef) * sc + n ≤ (catS env gs l).length ∧ TWp P w0 R t L (env ++ [.agg (((catS env gs l).drop (off + intN (env.getD k undef) * sc)).take n).toArray]) gs
    else ∃ v, (catS env gs l)[off + intN (env.getD k undef) * sc]? = some v ∧ TWp P w0 R t L (env ++ [v]) gs
  | .sti l off k sc n new t, L, env, gs => off + intN (env.getD k undef) * sc + n ≤ (catS env gs l).length ∧
      TWp P w0 R t L (env ++ [.agg ((catS env gs l).take (off + intN (env.getD k undef) * sc) ++ catS env gs new ++ (catS env gs l).drop (off + intN (env.getD k undef) * sc + n)).toArray]) gs

/-! what is compiled -/
def Atom.hasPtr : Atom → Bool
  | .ptr _ _ | .slc _ _ _ _ | .clo _ _ | .iptr _ _ _ _ | .slcx _ _ _ => true
  | _ => false
def Leaf.hasPtr : Leaf → Bool
  | .atom a => a.hasPtr
  | .agg l => l.any fun | .one a => a.hasPtr | _ => false
def SV.hasPtr : SV → Bool
  | .any => false
  | .leaf x => x.hasPtr
  | .tup l => l.any Leaf.hasPtr

def Sym.grow (st : Sym) (n : Nat) : Sym := { st with n := st.n + n }
def Sym.blk (st : Sym) (nb : List Blk) : Sym := { st with blocks := st.blocks ++ nb }

def nz : SV → Option SV
  | .any => none
  | v => some v

def qval (P : Program) (st : Sym) : Op → Option SV
  | .move x => nz (opd st x)
  | .assign x => nz (opd st x)
  | .pick c x y =>
    match opd st c with
    | .leaf (.atom (.const (.bool b))) => nz (opd st (if b then x else y))
    | _ => none
  | .unOp .not _ x =>
    match opd st x with
    | .leaf (.atom (.const (.bool b))) => some (.leaf (.atom (.const (.bool (!b)))))
    | _ => none
  | .load ty x =>
    match opd st x with
    | .leaf (.atom (.ptr b off)) => (st.blocks[b]?).bind fun blk => partS P ty blk.1 off
    | _ => none
  | .field ty x k =>
    match opd st x with
    | .leaf (.agg l) => (tyFld P ty k).bind fun f => partS P f.2 l f.1
    | _ => none
  | .fieldAddr ty x k =>
    match opd st x with
    | .leaf (.atom (.ptr b d)) => (tyFld P ty k).bind fun f => (tyN P f.2).bind fun n => if n == 0 then none else some (.leaf (.atom (.ptr b (d + f.1))))
    | .leaf (.atom (.iptr b d j sc)) => (tyFld P ty k).bind fun f => (tyN P f.2).bind fun n => if n == 0 then none else some (.leaf (.atom (.iptr b (d + f.1) j sc)))
    | _ => none
  | .indexAddr ty x i =>
    match opd st x, opd st i with
    | .leaf (.atom (.ptr b d)), .leaf (.atom (.const (.int _ m))) => (tyArr P ty).bind fun f => (tyN P f.2).bind fun n => if 0 ≤ m ∧ m < f.1 then some (.leaf (.atom (.ptr b (d + m.toNat * n)))) else none
    | .leaf (.atom (.slc b d len _)), .leaf (.atom (.const (.int _ m))) => (tySlc P ty).bind fun el => (tyN P el).bind fun n => if 0 ≤ m ∧ m < len then some (.leaf (.atom (.ptr b (d + m.toNat * n)))) else none
    | _, _ => none
  | .slice ty x lo hi none =>
    match opd st x with
    | .leaf (.atom (.ptr b d)) => (tyArr P ty).bind fun f => (tyN P f.2).bind fun n => (bndS st 0 lo).bind fun l => (bndS st f.1 hi).bind fun u =>
      if l ≤ u ∧ u ≤ f.1 then some (.leaf (.atom (.slc b (if f.1 = l then d else d + l * n) (u - l) (f.1 - l)))) else none
    | _ => none
  | .sliceToArrayPointer ty x =>
    match opd st x with
    | .leaf (.atom (.slc b d len _)) => (tyArr P ty).bind fun f => if f.1 ≤ len then some (.leaf (.atom (.ptr b d))) else none
    | _ => none
  | .extract x k =>
    match opd st x with
    | .tup l => (l[k]?).map .leaf
    | _ => none
  | .makeFunc fn first caps => if first.size == 0 then (caps.toList.mapM (ptrOf st)).map fun cs => .leaf (.atom (.clo fn cs)) else none
  | .build ty parts => (buildS P st ty parts).map fun l => .leaf (.agg l)
  | _ => none

/-- what makes a new block: its cells, its type; is it told as a slice of so many? -/
def mkS (P : Program) (st : Sym) : Op → Option (List Seg × TypeId × Option Nat)
  | .alloc ty => (zeroS P ty).map fun z => ([.lit z], ty, none)
  | .box ty x => (leafOf st x).map fun y => (y.segs, ty, none)
  | .buildSlice ty len parts => (tySlc P ty).bind fun el => (tyN P el).bind fun n => (zeroS P el).bind fun z =>
      if len * n == 0 || z.length != n || decide (len * n > 2 ^ 24) then none else
        (parts.toList.mapM fun p => (leafOf st p.2).map fun y => (p.1, y)).bind fun pv => (fillS (fun i => some (i * n, n)) [.lit (List.replicate len z).flatten] pv).map fun l => (l, el, some len)
  | _ => none

def canEnter (P : Program) (f : FuncId) : Bool :=
  match P.funcs[f]? with
  | some fn => fn.body.isSome && !(fn.name == "runtime.NumGoroutine")
  | none => false

/-- 0: reads; 1: a call; 2: a store; 3: an append; 5: makes a block -/
def cls (P : Program) (o : Oper) : Nat :=
  match o.op with
  | .call c => match c.callee with
    | .value (.func f) => if canEnter P f then 1 else 0
    | .value _ => 1
    | .builtin .append => 3
    | _ => 0
  | .store .. => 2
  | .alloc _ | .box .. | .buildSlice .. => 5
  | _ => 0

def gdS (st : Sym) (ops : Array Oper) (o : Oper) : Option Bool :=
  match o.guard with
  | none => some true
  | some (j, want) =>
    match (ops[j]?).bind (·.dst) with
    | some t => match st.slots[t]? with
      | some (.leaf (.atom (.const (.bool b)))) => some (b == want)
      | some (.tup []) => some false
      | _ => none
    | none => none

def evOf (st : Sym) (op : Op) : List (Tmp × SV) := (op.operands.toList.filterMap fun | .tmp t => some t | _ => none).filterMap fun t => match st.slots.getD t .any with | .any => none | v => some (t, v)

section
variable (P : Program) (orc : Orc)

def calc1 (st : Sym) (o : Oper) (s : Spec) (k : Sym → Option Tree) : Option Tree := k ((st.grow s.n).put o.dst (s.r.shift st.n st.blocks.length))
def blOf (st : Sym) (b : Bool) : Mem := if b then (st.blocks, st.rows) else ([], [])
/-- is it a row, or does it tell a place? -/
def Atom.looks (st : Sym) : Atom → Bool
  | .var k => st.rows.any fun r => r.kv == k
  | a => a.hasPtr
def Leaf.looks (st : Sym) : Leaf → Bool
  | .atom a => a.looks st
  | .agg l => l.any fun | .one a => a.looks st | _ => false
def SV.looks (st : Sym) : SV → Bool
  | .any => false
  | .leaf x => x.looks st
  | .tup l => l.any (Leaf.looks st)
/-- an address by a variable index: its value, the test of the index -/
def idxS (st : Sym) : Op → Option (Atom × (Tree → Tree))
  | .indexAddr ty x i =>
    match opd st x, opd st i with
    | .leaf (.atom (.ptr b d)), .leaf (.atom (.var k)) => (tyArr P ty).bind fun f => (tyN P f.2).map fun n => (.iptr b d k n, .bound k f.1)
    | .leaf (.atom (.slc b d len _)), .leaf (.atom (.var k)) => (tySlc P ty).bind fun el => (tyN P el).map fun n => (.iptr b d k n, .bound k len)
    | .leaf (.atom (.slcx b d j)), .leaf (.atom (.var k)) => (tySlc P ty).bind fun el => (tyN P el).map fun n => (.iptr b d k n, .boundx k j)
    | _, _ => none
  | _ => none
/-- a load through one: its value, over one new variable -/
def ldiS (st : Sym) : Op → Option (SV × (Tree → Tree))
  | .load ty x =>
    match opd st x with
    | .leaf (.atom (.iptr b off k sc)) => (st.blocks[b]?).bind fun blk => (tyAgg P ty).bind fun ag => (tyN P ty).bind fun n =>
        if ag then (if n == 0 then none else some (.leaf (.agg [.whole st.n n]), .ldi (blk.1.takeWhile Seg.clean) off k sc n true)) else some (.leaf (.atom (.var st.n)), .ldi (blk.1.takeWhile Seg.clean) off k sc n false)
    | _ => none
  | _ => none
def quietC (st : Sym) (o : Oper) (k : Sym → Option Tree) : Option Tree :=
  match qval P st o.op with
  | some v => k (st.put o.dst v)
  | none =>
  match idxS P st o.op with
  | some (x, f) => (k (st.put o.dst (.leaf (.atom x)))).map f
  | none =>
  match ldiS P st o.op with
  | some (v, f) => (k ((st.grow 1).put o.dst v)).map f
  | none => (o.dst.bind fun d => orc.ans.lookup d).bind fun
    | .one s => (calc1 st o s k).map fun t => .calc o.op o.type (evOf st o.op) (blOf st ((evOf st o.op).any (·.2.looks st))) (s.r.shift st.n st.blocks.length) s.n t
    | .two s s' => (calc1 st o s k).bind fun t => (calc1 st o s' k).map fun t' =>
        .calc2 o.op o.type (evOf st o.op) (blOf st ((evOf st o.op).any (·.2.looks st))) (s.r.shift st.n st.blocks.length) s.n t (s'.r.shift st.n st.blocks.length) s'.n t'

def calleeS (st : Sym) (o : Oper) : Option (FuncId × List Leaf) :=
  match o.op with
  | .call c => match c.callee with
    | .value f => match opd st f with
      | .leaf (.atom (.clo (.func g) caps)) => if canEnter P g then (c.args.toList.mapM (leafOf st)).map fun args => (g, args ++ caps.map fun c => .atom (.ptr c.1 c.2)) else none
      | _ => none
    | _ => none
  | _ => none
def call1 (st : Sym) (o : Oper) (s : Spec) (k : Sym → Option Tree) : Option Tree := k (((st.grow s.n).blk (shiftB st.n st.blocks.length s.nb)).put o.dst (s.r.shift st.n st.blocks.length))
def callC (st : Sym) (o : Oper) (k : Sym → Option Tree) : Option Tree :=
  (calleeS P st o).bind fun ga => (o.dst.bind fun d => orc.ans.lookup d).bind fun
    | .one s => (call1 st o s k).map fun t => .call ga.1 ga.2 (blOf st (ga.2.any (Leaf.looks st))) (s.r.shift st.n st.blocks.length) s.n (shiftB st.n st.blocks.length s.nb) t
    | .two s s' => (call1 st o s k).bind fun t => (call1 st o s' k).map fun t' =>
        .call2 ga.1 ga.2 (blOf st (ga.2.any (Leaf.looks st))) (s.r.shift st.n st.blocks.length) s.n (shiftB st.n st.blocks.length s.nb) t (s'.r.shift st.n st.blocks.length) s'.n (shiftB st.n st.blocks.length s'.nb) t'

def mkV (b : Nat) : Option Nat → SV
  | none => .leaf (.atom (.ptr b 0))
  | some m => .leaf (.atom (.slc b 0 m m))
def makeC (st : Sym) (o : Oper) (k : Sym → Option Tree) : Option Tree :=
  (mkS P st o.op).bind fun m => (k ((st.blk [(m.1, m.2.1)]).put o.dst (mkV st.blocks.length m.2.2))).map .new

def storeC (st : Sym) (o : Oper) (k : Sym → Option Tree) : Option Tree :=
  match o.op with
  | .store ty p x =>
    match opd st p with
    | .leaf (.atom (.iptr b off j sc)) => (leafOf st x).bind fun y => (tyN P ty).bind fun n => (st.blocks[b]?).bind fun blk =>
      if blk.1.all Seg.clean && (y.segs.all Seg.known && segsLen y.segs == n) then
        (k (({ st.grow 1 with blocks := st.blocks.set b ([if blk.1.all Seg.known then .whole st.n (segsLen blk.1) else .rest st.n], blk.2) } : Sym).put o.dst .any)).map (.sti blk.1 off j sc n y.segs) else none
    | _ => (ptrOf st p).bind fun bo => (leafOf st x).bind fun y => (tyN P ty).bind fun n => (st.blocks[bo.1]?).bind fun blk =>
      if y.segs.all Seg.known && segsLen y.segs == n then (putS blk.1 bo.2 y.segs n).bind fun l => k (({ st with blocks := st.blocks.set bo.1 (l, blk.2) } : Sym).put o.dst .any) else none
  | _ => none

/-- an append: to which row (none: to nil), which cells, of which type -/
def appS (st : Sym) : Op → Option (Option RowS × List Seg × TypeId × Nat)
  | .call { callee := .builtin .append, args := args, argTypes := tys } =>
    match args.toList, tys.toList with
    | [s, x], [t, t'] => if t != t' then none else
      (tySlc P t).bind fun el => (P.info? el).bind fun i => i.zero.bind fun z =>
        if !(z.cells.size == i.size && decide (0 < i.size) && decide (i.bytes ≤ 1000000)) then none else
        (match opd st x with
         | .leaf (.atom (.slc b d n _)) => (st.blocks[b]?).bind fun blk => cutS blk.1 d (n * i.size)
         | _ => none).bind fun new =>
        match opd st s with
        | .leaf (.atom (.const (.slice none 0 0))) => some (none, new, el, i.size)
        | .leaf (.atom (.var kv)) => (st.rows.find? fun r : RowS => r.kv == kv).bind fun r => if r.T == el && r.sz == i.size then some (some r, new, el, i.size) else none
        | _ => none
    | _, _ => none
  | _ => none
def appC (st : Sym) (o : Oper) (k : Sym → Option Tree) : Option Tree :=
  (appS P st o.op).bind fun m =>
    (k (({ st.grow 2 with rows := (match m.1 with | some r => st.rows.filter (fun s => s != r) | none => st.rows) ++ [⟨st.n, st.n + 1, m.2.2.1, m.2.2.2⟩] } : Sym).put o.dst (.leaf (.atom (.var st.n))))).map (.app (m.1.map RowS.kc) m.2.1)

def opC (ops : Array Oper) (o : Oper) (st : Sym) (k : Sym → Option Tree) : Option Tree :=
  match gdS st ops o with
  | none => none
  | some false => k (st.put o.dst (.tup []))
  | some true =>
    match cls P o with
    | 1 => callC P orc st o k
    | 2 => storeC P st o k
    | 3 => appC P st o k
    | 5 => makeC P st o k
    | _ => quietC P orc st o k

def seqC (ops : Array Oper) : List Oper → Sym → (Sym → Option Tree) → Option Tree
  | [], st, k => k st
  | o :: r, st, k => opC P orc ops o st fun st' => seqC ops r st' k

/-- ready to make a block -/
def armS (ops : Array Oper) (st : Sym) (i : Nat) : Bool := ((ops[i]?).map fun o => gdS st ops o == some true && (mkS P st o.op).isSome).getD false
def ordC (ops : Array Oper) : List Ko → Sym → (Sym → Option Tree) → Option Tree
  | [], st, k => k st
  | .quiet i :: r, st, k => (ops[i]?).bind fun o =>
    match gdS st ops o with
    | none => none
    | some false => ordC ops r (st.put o.dst (.tup [])) k
    | some true => quietC P orc st o fun st' => ordC ops r st' k
  | .call i pend :: r, st, k => if pend.all (armS P ops st) then (ops[i]?).bind fun o =>
    (match gdS st ops o with
    | none => none
    | some false => ordC ops r (st.put o.dst (.tup [])) k
    | some true => callC P orc st o fun st' => ordC ops r st' k) else none
  | .make i pend :: r, st, k => if pend.all (armS P ops st) then (ops[i]?).bind fun o =>
    (match gdS st ops o with
    | some true => makeC P st o fun st' => ordC ops r st' k
    | _ => none) else none
  | .last i :: r, st, k => (ops[i]?).bind fun o => if cls P o == 1 || cls P o == 5 || cls P o == 3 then none else opC P orc ops o st fun st' => ordC ops r st' k

/-- an order: what reads as early as may be, then the call that is next, then what makes blocks; at last stores -/
def orderOf (ops : Array Oper) : Nat → Bool → Array Bool → List Ko
  | 0, _, _ => []
  | n + 1, tail, listed =>
    let rd := Region.ready .any ops listed
    let kd := fun i => ((ops[i]?).map fun o => if cls P o == 5 && o.guard.isSome then 1 else cls P o).getD 0
    if tail then
      match rd with
      | i :: _ => .last i :: orderOf ops n true (listed.setIfInBounds i true)
      | [] => []
    else
      match rd.find? fun i => kd i == 0 with
      | some i => .quiet i :: orderOf ops n false (listed.setIfInBounds i true)
      | none => match rd.find? fun i => kd i == 1 with
        | some i => .call i (rd.filter (· != i)) :: orderOf ops n false (listed.setIfInBounds i true)
        | none => match rd.find? fun i => kd i == 5 with
          | some i => .make i (rd.filter (· != i)) :: orderOf ops n false (listed.setIfInBounds i true)
          | none => match rd with
            | i :: _ => .last i :: orderOf ops n true (listed.setIfInBounds i true)
            | [] => []
def ordGood (ops : Array Oper) (ord : List Ko) : Bool :=
  ordOkK ops (Ko.fins ord) (Ko.mks ord) ord (Array.replicate ops.size false) && decide (ord.length ≤ ops.size) && alApart ops (Ko.mks ord) && ord.all (fun | .last j => decide (j < ops.size) | _ => true)

def drawC (ops : Array Oper) (st : Sym) (k : Sym → Option Tree) : Option Tree :=
  let ord := orderOf P ops ops.size false (Array.replicate ops.size false)
  if P.follows .mixedOrders && Region.noSelect ops && ordGood ops ord then ordC P orc ops ord st k else none

def resS (st : Sym) : ResultVar → Option Leaf
  | .tmp t => leafOf st (.tmp t)
  | .cell p ty => (ptrOf st (.tmp p)).bind fun bo => (st.blocks[bo.1]?).bind fun blk => (partS P ty blk.1 bo.2).bind fun | .leaf y => some y | _ => none
def retV : List Leaf → SV
  | [x] => .leaf x
  | l => .tup l
def retC (fn : Func) (st : Sym) : Option Tree := (fn.results.toList.mapM (resS P st)).map fun l => .ret (blOf st (l.any (Leaf.looks st))) (retV l)
end

/-! loops -/
def all2 {α : Type} (f : α → α → Bool) : List α → List α → Bool
  | [], [] => true
  | x :: l, y :: m => f x y && all2 f l m
  | _, _ => false
def vsame : Value → Value → Bool
  | .int k n, .int k' n' => k == k' && n == n'
  | .bool b, .bool c => b == c
  | .pointer none, .pointer none => true
  | .slice none a b, .slice none c d => a == c && b == d
  | _, _ => false
def Atom.same : Atom → Atom → Bool
  | .const v, .const u => vsame v u
  | .var k, .var j => k == j
  | .cell k i, .cell j h => k == j && i == h
  | .ptr b o, .ptr c p => b == c && o == p
  | .slc b o l m, .slc b' o' l' m' => b == b' && o == o' && l == l' && m == m'
  | .clo f c, .clo g d => decide (f = g) && c == d
  | .iptr b o k s, .iptr b' o' k' s' => b == b' && o == o' && k == k' && s == s'
  | .slcx b o k, .slcx b' o' k' => b == b' && o == o' && k == k'
  | _, _ => false
def Seg.same : Seg → Seg → Bool
  | .whole k n, .whole j m => k == j && n == m
  | .part k o n, .part j p m => k == j && o == p && n == m
  | .lit l, .lit m => all2 vsame l m
  | .one a, .one b => a.same b
  | .rest k, .rest j => k == j
  | .junk k, .junk j => k == j
  | _, _ => false
def Leaf.same : Leaf → Leaf → Bool
  | .atom a, .atom b => a.same b
  | .agg l, .agg m => all2 Seg.same l m
  | _, _ => false
def SV.same : SV → SV → Bool
  | .leaf x, .leaf y => x.same y
  | .tup l, .tup m => all2 Leaf.same l m
  | _, _ => false
def SV.isAny : SV → Bool
  | .any => true
  | _ => false

def pcsS (k : Nat) : List Kd → List Seg
  | [] => []
  | .agg n :: r => .whole k n :: pcsS (k + 1) r
  | .one :: r => .one (.var k) :: pcsS (k + 1) r
  | .row :: r => .rest k :: pcsS (k + 1) r
def slotSV (k : Nat) : List Kd → SV
  | [.one] => .leaf (.atom (.var k))
  | pcs => .leaf (.agg (pcsS k pcs))
def Item.pcs : Item → List Kd
  | .slot _ p => p
  | .blk _ p => p
  | .row _ _ _ => [.one, .row]
def curP (l : List Seg) : Nat → List Kd → Option (List Leaf)
  | off, [] => if off == segsLen l && l.all Seg.known then some [] else none
  | off, .agg n :: r => (cutS l off n).bind fun s => (curP l (off + n) r).map fun ls => .agg s :: ls
  | off, .one :: r => (cutS l off 1).bind fun s => (cellS s).bind fun x => (curP l (off + 1) r).map fun ls => .atom x :: ls
  | _, .row :: _ => none
def curI (st : Sym) : Item → Option (List Leaf)
  | .slot t pcs =>
    match pcs, st.slots.getD t .any with
    | [.one], .leaf (.atom x) => some [.atom x]
    | [.one], _ => none
    | pcs, .leaf (.agg l) => curP l 0 pcs
    | _, _ => none
  | .blk b pcs => (st.blocks[b]?).bind fun blk => curP blk.1 0 pcs
  | .row t T sz =>
    match st.slots.getD t .any with
    | .leaf (.atom (.const (.slice none 0 0))) => some [.atom (.const (.slice none 0 0)), .agg []]
    | .leaf (.atom (.var kv)) => (st.rows.find? fun r : RowS => r.kv == kv).bind fun r => if r.T == T && r.sz == sz then some [.atom (.var kv), .agg [.rest r.kc]] else none
    | _ => none
def setI (st : Sym) (k : Nat) : Item → Sym
  | .slot t pcs => { st with slots := st.slots.set t (slotSV k pcs) }
  | .blk b pcs => { st with blocks := st.blocks.modify b fun x => (pcsS k pcs, x.2) }
  | .row t _ _ => { st with slots := st.slots.set t (.leaf (.atom (.var k))) }
def ksOf (items : List Item) : List Kd := items.flatMap Item.pcs
def setIs (st : Sym) : Nat → List Item → Sym
  | _, [] => st
  | k, i :: r => setIs (setI st k i) (k + i.pcs.length) r
/-- the rows of the loop's head -/
def rowsI : Nat → List Item → List RowS
  | _, [] => []
  | k, .row _ T sz :: r => ⟨k, k + 1, T, sz⟩ :: rowsI (k + 2) r
  | k, i :: r => rowsI (k + i.pcs.length) r
/-- the rows that stand for them at a state -/
def rowKs (st : Sym) : List Item → List Nat
  | [] => []
  | .row t _ _ :: r => (match st.slots.getD t .any with
    | .leaf (.atom (.var kv)) => [kv]
    | _ => []) ++ rowKs st r
  | _ :: r => rowKs st r
def distinct : List Nat → Bool
  | [] => true
  | x :: r => !r.contains x && distinct r
def dsts : Code → List Tmp
  | .region _ ops _ => ops.toList.filterMap (·.dst)
  | .seq a b => dsts a ++ dsts b
  | .cond _ a b => dsts a ++ dsts b
  | .block _ a => dsts a
  | .loop a => dsts a
  | .scope a => dsts a
  | _ => []
def headOf (st : Sym) (items : List Item) (kill : List Tmp) : Sym :=
  setIs { st with slots := kill.foldl (fun s t => s.set t .any) st.slots, rows := rowsI st.n items, n := st.n + (ksOf items).length, dep := st.dep + 1 } st.n items
/-- item by item: what stands at it in the head of the loop -/
def headI (head : Sym) (k : Nat) : Item → Bool
  | .slot t pcs => (head.slots.getD t .any).same (slotSV k pcs)
  | .blk b pcs => ((head.blocks[b]?).map fun blk => all2 Seg.same blk.1 (pcsS k pcs)).getD false
  | .row t _ _ => (head.slots.getD t .any).same (.leaf (.atom (.var k)))
def headIs (head : Sym) : Nat → List Item → Bool
  | _, [] => true
  | k, i :: r => headI head k i && headIs head (k + i.pcs.length) r
def isSlot (items : List Item) (t : Nat) : Bool := items.any fun | .slot u _ => u == t | .row u _ _ => u == t | _ => false
def isBlk (items : List Item) (b : Nat) : Bool := items.any fun | .blk u _ => u == b | _ => false
def curIs (st : Sym) : List Item → Option (List Leaf)
  | [] => some []
  | i :: r => (curI st i).bind fun a => (curIs st r).map fun b => a ++ b
/-- does what st tells fit the head of the loop? what turns, then -/
def fits (head st : Sym) (items : List Item) (k : Nat) : Option (List Leaf) :=
  if headIs head k items && decide (head.rows = rowsI k items) && distinct (rowKs st items) && st.slots.length == head.slots.length &&
    ((List.range head.slots.length).all fun t => (head.slots.getD t .any).isAny || isSlot items t || (head.slots.getD t .any).same (st.slots.getD t .any)) &&
    ((List.range head.blocks.length).all fun b => match head.blocks[b]?, st.blocks[b]? with
      | some x, some y => x.2 == y.2 && (isBlk items b || all2 Seg.same x.1 y.1)
      | _, _ => false)
  then curIs st items else none

section
variable (P : Program) (fn : Func) (orc : Orc)
def compC : Code → Nat → Sym → (Exit → Sym → Option Tree) → Option Tree
  | .skip, _, st, k => k .normal st
  | .label _, _, st, k => k .normal st
  | .region _ ops draw, _, st, k => if draw then drawC P orc ops st (k .normal) else seqC P orc ops ops.toList st (k .normal)
  | .seq x y, cur, st, k => compC x cur st fun e st' => match e with
    | .normal => compC y cur st' k
    | e => k e st'
  | .cond c x y, cur, st, k =>
    match opd st c with
    | .leaf (.atom (.const (.bool b))) => if b then compC x cur st k else compC y cur st k
    | .leaf (.atom a) => (compC x cur st k).bind fun t => (compC y cur st k).map fun t' => .ite a t t'
    | _ => none
  | .block id c, _, st, k => compC c id st fun e st' => match e with
    | .exit id' => if id' = id then k .normal st' else k (.exit id') st'
    | e => k e st'
  | .loop c, cur, st, k => (orc.lps.lookup cur).bind fun items =>
    (fits (headOf st items (dsts c)) st items st.n).bind fun init =>
      (compC c cur (headOf st items (dsts c)) fun e st' => match e with
        | .normal => (fits (headOf st items (dsts c)) st' items st.n).map fun v => .again st.dep v
        | e => k e st').map fun body => .loop init (ksOf items) body
  | .exit id, _, st, k => k (.exit id) st
  | .ret, _, st, k => k .ret st
  | _, _, _, _ => none
def compF (c : Code) (st : Sym) : Option Tree := compC P orc c 0 st fun e st' => match e with
  | .normal => retC P fn st'
  | .ret => retC P fn st'
  | _ => none
end
end Go.Proofs.Ytdpongijmmdnoaa
