/- Steps of a tree: calls by their contracts, operations on numbers, ends. Over any program. -/
import Derived.Test.YtdpongijmmdnoaaSyf
import Derived.Test.YtdpongijmmdnoaaEe
import Derived.ChangeKeysEq
import Derived.Laws.StructEq
namespace Go.Proofs.Ytdpongijmmdnoaa
open Go.RowKit FdP FdP.Ch

def OutV (v : Value) (W : World) (e : Ending) (w' : World) : Prop := e = .returned v ∧ Fut W w'
/-- some limbs of the element x -/
def OutE (x : F) (W : World) (e : Ending) (w' : World) : Prop := ∃ l, e = .returned (AG (us l)) ∧ E l x ∧ Fut W w'

section
variable {P : Program} {w0 : World} {R : Ending → World → Prop} {L : List (List Value → Prop)} {env : List Value} {gs : List Nat}

theorem NewB.nil (W w' : World) (env : List Value) (gs : List Nat) : NewB W w' (bsA env gs [] []) := ⟨(by intro x hx; cases hx), List.Pairwise.nil⟩

theorem tw_new {k : Tree} (h : ∀ g, TWp P w0 R k L env (gs ++ [g])) : TWp P w0 R (.new k) L env gs := h

/-- a call that gives one value, whatever the world -/
theorem tw_call {f : FuncId} {args : List Leaf} {bl : Mem} {r : SV} {n : Nat} {k : Tree} (C : World → Ending → World → Prop)
    (hc : ∀ W, Mm w0 W env gs bl → Calls P f (args.map (Leaf.den env gs)).toArray W (C W))
    (hk : ∀ W e w', C W e w' → ∃ vs, vs.length = n ∧ e = .returned (r.den (env ++ vs) gs) ∧ r.OK (env ++ vs) gs ∧ Fut W w' ∧ TWp P w0 R k L (env ++ vs) gs) :
    TWp P w0 R (.call f args bl r n [] k) L env gs := by
  intro W hW
  refine (hc W hW).mono fun e w' h => ?_
  obtain ⟨vs, h1, h2, h3, h4, h5⟩ := hk W e w' h
  refine ⟨vs, [], h1, rfl, by rw [List.append_nil]; exact h2, by rw [List.append_nil]; exact h3, (by intro b hb; cases hb), h4, NewB.nil _ _ _ _, by rw [List.append_nil]; exact h5⟩

theorem st_of {W : World} {bl : Mem} (h : Mm w0 W env gs bl) : Below w0.heap.size w0 W := h.1.below

theorem agg_new {cs : List Value} {m n : Nat} (hm : env.length = m) (hl : cs.length = n) (h1 : ∀ x ∈ cs, x.oneCell' = true) : AggN (env ++ [.agg cs.toArray]) m n :=
  ⟨cs, by rw [← hm]; simp, hl, h1⟩
theorem cells_new {cs : List Value} {m : Nat} (hm : env.length = m) : cellsAt (env ++ [.agg cs.toArray]) m = cs := by
  subst hm; simp [cellsAt, List.getD, Value.cells]

/-- a struct or an array of n cells -/
theorem tw_agg {f : FuncId} {args : List Leaf} {bl : Mem} {k : Tree} {m n : Nat} {cs : List Value}
    (hc : ∀ W, Mm w0 W env gs bl → Calls P f (args.map (Leaf.den env gs)).toArray W (OutV (AG cs) W))
    (hm : env.length = m) (hl : cs.length = n) (h1 : ∀ x ∈ cs, x.oneCell' = true) (hk : TWp P w0 R k L (env ++ [AG cs]) gs) :
    TWp P w0 R (.call f args bl (.leaf (.agg [.whole m n])) 1 [] k) L env gs := by
  refine tw_call _ hc fun W e w' ⟨he, hF⟩ => ⟨[AG cs], rfl, ?_, ?_, hF, hk⟩
  · rw [he]; simp only [SV.den, Leaf.den, catS, Seg.den, AG, cells_new hm]
  · intro s hs; simp only [List.mem_singleton] at hs; subst hs; exact agg_new hm hl h1

/-- an element -/
theorem tw_E {f : FuncId} {args : List Leaf} {bl : Mem} {k : Tree} {m : Nat} {x : F}
    (hc : ∀ W, Mm w0 W env gs bl → Calls P f (args.map (Leaf.den env gs)).toArray W (OutE x W))
    (hm : env.length = m) (hk : ∀ l, E l x → TWp P w0 R k L (env ++ [AG (us l)]) gs) :
    TWp P w0 R (.call f args bl (.leaf (.agg [.whole m 8])) 1 [] k) L env gs := by
  refine tw_call _ hc fun W e w' ⟨l, he, hE, hF⟩ => ⟨[AG (us l)], rfl, ?_, ?_, hF, hk l hE⟩
  · rw [he]; simp only [SV.den, Leaf.den, catS, Seg.den, AG, cells_new hm]
  · intro s hs; simp only [List.mem_singleton] at hs; subst hs; exact agg_new hm (by simp [hE.len]) (us_one l)

/-- a value of one cell -/
theorem tw_var {f : FuncId} {args : List Leaf} {bl : Mem} {k : Tree} {m : Nat} {v : Value}
    (hc : ∀ W, Mm w0 W env gs bl → Calls P f (args.map (Leaf.den env gs)).toArray W (OutV v W))
    (hm : env.length = m) (h1 : v.oneCell' = true) (hk : TWp P w0 R k L (env ++ [v]) gs) :
    TWp P w0 R (.call f args bl (.leaf (.atom (.var m))) 1 [] k) L env gs := by
  have e : (env ++ [v]).getD m undef = v := by subst hm; simp [List.getD]
  refine tw_call _ hc fun W e' w' ⟨he, hF⟩ => ⟨[v], rfl, ?_, ?_, hF, hk⟩
  · rw [he]; simp only [SV.den, Leaf.den, Atom.den, e]
  · exact ⟨by subst hm; simp, by rw [e]; exact h1⟩

/-- a constant -/
theorem tw_const {f : FuncId} {args : List Leaf} {bl : Mem} {k : Tree} {v : Value}
    (hc : ∀ W, Mm w0 W env gs bl → Calls P f (args.map (Leaf.den env gs)).toArray W (OutV v W))
    (h1 : v.oneCell' = true) (hk : TWp P w0 R k L env gs) :
    TWp P w0 R (.call f args bl (.leaf (.atom (.const v))) 0 [] k) L env gs := by
  refine tw_call _ hc fun W e' w' ⟨he, hF⟩ => ⟨[], rfl, ?_, ?_, hF, by rw [List.append_nil]; exact hk⟩
  · rw [he]; rfl
  · exact h1
/-- a truth that is known -/
theorem tw_yes {f : FuncId} {args : List Leaf} {bl : Mem} {k : Tree} {b : Bool} (c : Bool)
    (hc : ∀ W, Mm w0 W env gs bl → Calls P f (args.map (Leaf.den env gs)).toArray W (OutV (.bool c) W))
    (hb : c = b) (hk : TWp P w0 R k L env gs) : TWp P w0 R (.call f args bl (.leaf (.atom (.const (.bool b)))) 0 [] k) L env gs := by
  subst hb; exact tw_const hc rfl hk
/-- a truth that is not known -/
theorem tw_bool {f : FuncId} {args : List Leaf} {bl : Mem} {k k' : Tree} (c : Bool)
    (hc : ∀ W, Mm w0 W env gs bl → Calls P f (args.map (Leaf.den env gs)).toArray W (OutV (.bool c) W))
    (ht : c = true → TWp P w0 R k L env gs) (hf : c = false → TWp P w0 R k' L env gs) :
    TWp P w0 R (.call2 f args bl (.leaf (.atom (.const (.bool true)))) 0 [] k (.leaf (.atom (.const (.bool false)))) 0 [] k') L env gs := by
  intro W hW
  refine (hc W hW).mono fun e w' ⟨he, hF⟩ => ?_
  cases c with
  | true => exact .inl ⟨[], [], rfl, rfl, by rw [he]; rfl, rfl, (by intro b hb; cases hb), hF, NewB.nil _ _ _ _, by rw [List.append_nil, List.append_nil]; exact ht rfl⟩
  | false => exact .inr ⟨[], [], rfl, rfl, by rw [he]; rfl, rfl, (by intro b hb; cases hb), hF, NewB.nil _ _ _ _, by rw [List.append_nil, List.append_nil]; exact hf rfl⟩

/-- a tuple of leaves that one knows -/
theorem tw_tupV {f : FuncId} {args : List Leaf} {bl : Mem} {k : Tree} {r : SV} {n : Nat} (vs : List Value) (v : Value)
    (hc : ∀ W, Mm w0 W env gs bl → Calls P f (args.map (Leaf.den env gs)).toArray W (OutV v W))
    (hn : vs.length = n) (hv : r.den (env ++ vs) gs = v) (ok : r.OK (env ++ vs) gs) (hk : TWp P w0 R k L (env ++ vs) gs) :
    TWp P w0 R (.call f args bl r n [] k) L env gs :=
  tw_call _ hc fun W e' w' ⟨he, hF⟩ => ⟨vs, hn, by rw [he, hv], ok, hF, hk⟩

/-! operations -/
def opv (ev : List (Tmp × SV)) (env : List Value) (gs : List Nat) : Operand → Option Value
  | .tmp t => (ev.lookup t).map (SV.den env gs)
  | .const v => some v
  | _ => none
theorem lookup_mem : ∀ {ev : List (Tmp × SV)} {t : Tmp} {x : SV}, ev.lookup t = some x → (t, x) ∈ ev
  | [], _, _, h => by cases h
  | (u, y) :: r, t, x, h => by
    simp only [List.lookup] at h
    split at h
    · rename_i hh; cases h; simp at hh; subst hh; simp
    · exact List.mem_cons_of_mem _ (lookup_mem h)
theorem opv_ok {ev : List (Tmp × SV)} {a : Act} {x : Operand} {v : Value} (h : opv ev env gs x = some v) (he : ∀ y ∈ ev, a.eval (.tmp y.1) = y.2.den env gs) : a.eval x = v := by
  cases x with
  | tmp t =>
    simp only [opv] at h
    obtain ⟨y, hy, rfl⟩ := Option.map_eq_some_iff.1 h
    exact he _ (lookup_mem hy)
  | const c => simp only [opv] at h; cases h; rfl
  | global g => cases h
  | func f => cases h

/-- an operation that yields a value of one cell -/
theorem tw_calc {op : Op} {ty : TypeId} {ev : List (Tmp × SV)} {bl : Mem} {k : Tree} {m : Nat} {v : Value}
    (hx : ∀ (o : Oper) (a : Act) (W : World), o.op = op → o.type = ty → (∀ x ∈ ev, a.eval (.tmp x.1) = x.2.den env gs) → Mm w0 W env gs bl → (execOp a.eval o).run P W = .ok (.value v) W)
    (hm : env.length = m) (h1 : v.oneCell' = true) (hk : TWp P w0 R k L (env ++ [v]) gs) : TWp P w0 R (.calc op ty ev bl (.leaf (.atom (.var m))) 1 k) L env gs := by
  have e : (env ++ [v]).getD m undef = v := by subst hm; simp [List.getD]
  refine ⟨[v], rfl, ⟨by subst hm; simp, by rw [e]; exact h1⟩, fun o a W h1 h2 h3 h4 => ?_, hk⟩
  simp only [SV.den, Leaf.den, Atom.den, e]
  exact hx o a W h1 h2 h3 h4
theorem tw_calc2 {op : Op} {ty : TypeId} {ev : List (Tmp × SV)} {bl : Mem} {k k' : Tree} (c : Bool)
    (hx : ∀ (o : Oper) (a : Act) (W : World), o.op = op → o.type = ty → (∀ x ∈ ev, a.eval (.tmp x.1) = x.2.den env gs) → Mm w0 W env gs bl → (execOp a.eval o).run P W = .ok (.value (.bool c)) W)
    (ht : c = true → TWp P w0 R k L env gs) (hf : c = false → TWp P w0 R k' L env gs) :
    TWp P w0 R (.calc2 op ty ev bl (.leaf (.atom (.const (.bool true)))) 0 k (.leaf (.atom (.const (.bool false)))) 0 k') L env gs := by
  cases c with
  | true => exact .inl ⟨[], rfl, rfl, fun o a W h1 h2 h3 h4 => hx o a W h1 h2 h3 h4, by rw [List.append_nil]; exact ht rfl⟩
  | false => exact .inr ⟨[], rfl, rfl, fun o a W h1 h2 h3 h4 => hx o a W h1 h2 h3 h4, by rw [List.append_nil]; exact hf rfl⟩

/-- both operands are numbers of one kind -/
theorem run_bin {o : Oper} {a : Act} {op : BinOp} {xt yt : TypeId} {x y : Operand} {kd : IntKind} {m n : Int} {v : Value} (hop : o.op = .binOp op xt x y yt) (hx : a.eval x = .int kd m) (hy : a.eval y = .int kd n) {W : World}
    (hb : (binOp op xt (.int kd m) (.int kd n)).run P W = .ok v W) : (execOp a.eval o).run P W = .ok (.value v) W := by
  have hg : (eqGuard op xt x y (.int kd m) (.int kd n)).run P W = .ok () W := by unfold eqGuard; cases op <;> rfl
  unfold execOp
  simp only [hop, hx, hy, Sem.run_bind, hg, Result.andThen_ok, hb, Sem.run_pure]

theorem tw_bin {op : BinOp} {xt yt ty : TypeId} {x y : Operand} {ev : List (Tmp × SV)} {bl : Mem} {k : Tree} {e : Nat} {kd : IntKind} {m n : Int} {v : Value}
    (hx : opv ev env gs x = some (.int kd m)) (hy : opv ev env gs y = some (.int kd n)) (hb : ∀ W, (binOp op xt (.int kd m) (.int kd n)).run P W = .ok v W)
    (hm : env.length = e) (h1 : v.oneCell' = true) (hk : TWp P w0 R k L (env ++ [v]) gs) : TWp P w0 R (.calc (.binOp op xt x y yt) ty ev bl (.leaf (.atom (.var e))) 1 k) L env gs :=
  tw_calc (fun _ _ W ho _ he _ => run_bin ho (opv_ok hx he) (opv_ok hy he) (hb W)) hm h1 hk
theorem tw_cmp {op : BinOp} {xt yt ty : TypeId} {x y : Operand} {ev : List (Tmp × SV)} {bl : Mem} {k k' : Tree} {kd : IntKind} {m n : Int} (c : Bool)
    (hx : opv ev env gs x = some (.int kd m)) (hy : opv ev env gs y = some (.int kd n)) (hb : ∀ W, (binOp op xt (.int kd m) (.int kd n)).run P W = .ok (.bool c) W)
    (ht : c = true → TWp P w0 R k L env gs) (hf : c = false → TWp P w0 R k' L env gs) :
    TWp P w0 R (.calc2 (.binOp op xt x y yt) ty ev bl (.leaf (.atom (.const (.bool true)))) 0 k (.leaf (.atom (.const (.bool false)))) 0 k') L env gs :=
  tw_calc2 c (fun _ _ W ho _ he _ => run_bin ho (opv_ok hx he) (opv_ok hy he) (hb W)) ht hf

theorem bin_lss (t : TypeId) (kd : IntKind) (m n : Int) (W : World) : (binOp .lss t (.int kd m) (.int kd n)).run P W = .ok (.bool (decide (m < n))) W := by simp [binOp, Op.intCmp]
theorem bin_leq (t : TypeId) (kd : IntKind) (m n : Int) (W : World) : (binOp .leq t (.int kd m) (.int kd n)).run P W = .ok (.bool (decide (m ≤ n))) W := by simp [binOp, Op.intCmp]
theorem bin_gtr (t : TypeId) (kd : IntKind) (m n : Int) (W : World) : (binOp .gtr t (.int kd m) (.int kd n)).run P W = .ok (.bool (decide (n < m))) W := by simp [binOp, Op.intCmp]
theorem bin_geq (t : TypeId) (kd : IntKind) (m n : Int) (W : World) : (binOp .geq t (.int kd m) (.int kd n)).run P W = .ok (.bool (decide (n ≤ m))) W := by simp [binOp, Op.intCmp]
theorem bin_eql (t : TypeId) (kd : IntKind) (m n : Int) (W : World) : (binOp .eql t (.int kd m) (.int kd n)).run P W = .ok (.bool (decide (m = n))) W := by
  simp [binOp, Op.intCmp]; rfl
theorem bin_neq (t : TypeId) (kd : IntKind) (m n : Int) (W : World) : (binOp .neq t (.int kd m) (.int kd n)).run P W = .ok (.bool (!decide (m = n))) W := by
  simp [binOp, Op.intCmp]; rfl
theorem bin_add (t : TypeId) (kd : IntKind) (m n : Int) (W : World) : (binOp .add t (.int kd m) (.int kd n)).run P W = .ok (.int kd (kd.wrap (m + n))) W := by simp [binOp, Op.intArith]
theorem bin_sub (t : TypeId) (kd : IntKind) (m n : Int) (W : World) : (binOp .sub t (.int kd m) (.int kd n)).run P W = .ok (.int kd (kd.wrap (m - n))) W := by simp [binOp, Op.intArith]
theorem bin_mul (t : TypeId) (kd : IntKind) (m n : Int) (W : World) : (binOp .mul t (.int kd m) (.int kd n)).run P W = .ok (.int kd (kd.wrap (m * n))) W := by simp [binOp, Op.intArith]
theorem bin_quo (t : TypeId) (kd : IntKind) (m n : Int) (hn : n ≠ 0) (W : World) : (binOp .quo t (.int kd m) (.int kd n)).run P W = .ok (.int kd (kd.wrap (m.tdiv n))) W := by simp [binOp, Op.intDiv, hn]
theorem bin_rem (t : TypeId) (kd : IntKind) (m n : Int) (hn : n ≠ 0) (W : World) : (binOp .rem t (.int kd m) (.int kd n)).run P W = .ok (.int kd (m.tmod n)) W := by simp [binOp, Op.intDiv, hn]
theorem i64_in (x : Int) (h : -9223372036854775808 ≤ x ∧ x < 9223372036854775808) : IntKind.i64.wrap x = x := by
  simp only [IntKind.wrap, IntKind.bits, IntKind.signed]
  simp only [Bool.true_and, decide_eq_true_eq, ge_iff_le]
  split <;> omega
/-- sums of ints that fit -/
theorem bin_add_in (t : TypeId) {m n r : Int} (hr : m + n = r) (h : -9223372036854775808 ≤ r ∧ r < 9223372036854775808) (W : World) : (binOp .add t (.int .i64 m) (.int .i64 n)).run P W = .ok (.int .i64 r) W := by rw [bin_add, hr, i64_in r h]
theorem bin_sub_in (t : TypeId) {m n r : Int} (hr : m - n = r) (h : -9223372036854775808 ≤ r ∧ r < 9223372036854775808) (W : World) : (binOp .sub t (.int .i64 m) (.int .i64 n)).run P W = .ok (.int .i64 r) W := by rw [bin_sub, hr, i64_in r h]
theorem bin_mul_in (t : TypeId) {m n r : Int} (hr : m * n = r) (h : -9223372036854775808 ≤ r ∧ r < 9223372036854775808) (W : World) : (binOp .mul t (.int .i64 m) (.int .i64 n)).run P W = .ok (.int .i64 r) W := by rw [bin_mul, hr, i64_in r h]
theorem bin_quo_in (t : TypeId) {m n : Int} (h0 : 0 ≤ m) (h1 : 0 < n) (h : m < 9223372036854775808) (W : World) : (binOp .quo t (.int .i64 m) (.int .i64 n)).run P W = .ok (.int .i64 (m / n)) W := by
  rw [bin_quo t _ m n (by omega), Int.tdiv_eq_ediv_of_nonneg h0]
  have h2 : 0 ≤ m / n := Int.ediv_nonneg h0 (by omega)
  have h3 : m / n ≤ m := Int.ediv_le_self n h0
  rw [i64_in _ (by omega)]
theorem bin_rem_in (t : TypeId) {m n : Int} (h0 : 0 ≤ m) (h1 : 0 < n) (W : World) : (binOp .rem t (.int .i64 m) (.int .i64 n)).run P W = .ok (.int .i64 (m % n)) W := by
  rw [bin_rem t _ m n (by omega), Int.tmod_eq_emod_of_nonneg h0]

theorem tw_neg {kd : IntKind} {xt ty : TypeId} {x : Operand} {ev : List (Tmp × SV)} {bl : Mem} {k : Tree} {e : Nat} {n r : Int}
    (hx : opv ev env gs x = some (.int kd n)) (hr : kd.wrap (0 - n) = r) (hm : env.length = e) (hk : TWp P w0 R k L (env ++ [.int kd r]) gs) : TWp P w0 R (.calc (.unOp .neg xt x) ty ev bl (.leaf (.atom (.var e))) 1 k) L env gs :=
  tw_calc (fun _ a W ho _ he _ => by unfold execOp; simp only [ho, opv_ok hx he, Op.unary, Op.intArith, hr, Sem.run_bind, Sem.run_pure, Result.andThen_ok]) hm rfl hk
theorem tw_not {xt ty : TypeId} {x : Operand} {ev : List (Tmp × SV)} {bl : Mem} {k : Tree} {e : Nat} {b : Bool}
    (hx : opv ev env gs x = some (.bool b)) (hm : env.length = e) (hk : TWp P w0 R k L (env ++ [.bool (!b)]) gs) : TWp P w0 R (.calc (.unOp .not xt x) ty ev bl (.leaf (.atom (.var e))) 1 k) L env gs :=
  tw_calc (fun _ a W ho _ he _ => by unfold execOp; simp only [ho, opv_ok hx he, Op.unary, Sem.run_bind, Sem.run_pure, Result.andThen_ok]) hm rfl hk
/-- a number as one of another kind -/
theorem tw_conv {kd kd' : IntKind} {st dt ty : TypeId} {x : Operand} {ev : List (Tmp × SV)} {bl : Mem} {k : Tree} {e : Nat} {n r : Int} {d : TypeDesc}
    (hx : opv ev env gs x = some (.int kd n)) (hs : P.underlying st = some d) (hd : P.underlying dt = some (.int kd')) (hr : kd'.wrap n = r) (hm : env.length = e) (hk : TWp P w0 R k L (env ++ [.int kd' r]) gs) :
    TWp P w0 R (.calc (.convert st dt x) ty ev bl (.leaf (.atom (.var e))) 1 k) L env gs :=
  tw_calc (fun _ a W ho _ he _ => by
    unfold execOp
    simp only [ho, opv_ok hx he, convert, Conv.intToInt, Sem.run_bind, run_underlying hs, run_underlying hd, hr, Sem.run_pure, Result.andThen_ok]) hm rfl hk
/-- how long a slice is -/
theorem tw_len {x : Operand} {st el ty : TypeId} {ev : List (Tmp × SV)} {bl : Mem} {k : Tree} {e : Nat} {ad : Option Addr} {l c : Nat}
    (hx : opv ev env gs x = some (.slice ad l c)) (ht : tySlc P st = some el) (hm : env.length = e) (hk : TWp P w0 R k L (env ++ [.int .i64 (l : Int)]) gs) :
    TWp P w0 R (.calc (.call { callee := .builtin .len, args := #[x], argTypes := #[st] }) ty ev bl (.leaf (.atom (.var e))) 1 k) L env gs :=
  tw_calc (fun o a W ho _ he _ => by
    unfold tySlc at ht
    split at ht
    · rename_i el' hu
      cases ht
      have e1 : (Builtin.len_ #[st] o.type #[.slice ad l c]).run P W = .ok (.int .i64 (l : Int)) W := by
        unfold Builtin.len_
        simp [run_underlying hu, goInt]
      unfold execOp
      simp only [ho, resolve, invoke, builtin, Sem.run_bind, Sem.run_pure, Result.andThen_ok, List.map_toArray, List.map_cons, List.map_nil, opv_ok hx he, e1]
    · cases ht) hm rfl hk
/-- a place of a slice that came in -/
theorem tw_xidx {xt ty el : TypeId} {x i : Operand} {ev : List (Tmp × SV)} {bl : Mem} {k : Tree} {e len cap n : Nat} {a : Addr} {kd : IntKind} {m : Int}
    (hx : opv ev env gs x = some (.slice (some a) len cap)) (hi : opv ev env gs i = some (.int kd m)) (hs : tySlc P xt = some el) (hn : tyN P el = some n) (h0 : 0 ≤ m) (h1 : m < (len : Int)) (hm : env.length = e)
    (hk : TWp P w0 R k L (env ++ [.pointer (some (a.add (m.toNat * n)))]) gs) : TWp P w0 R (.calc (.indexAddr xt x i) ty ev bl (.leaf (.atom (.var e))) 1 k) L env gs :=
  tw_calc (fun _ a W ho _ he _ => by
    unfold tySlc at hs
    split at hs
    · rename_i el' hu
      cases hs
      unfold execOp
      simp only [ho, opv_ok hx he, opv_ok hi he, Instr.indexAt, asIntOf, Sem.run_bind, run_underlying hu, Result.andThen_ok, Sem.run_pure, tyN_run hn, h0, h1, and_self, if_true]
    · cases hs) hm rfl hk
/-- a load of a cell that came in -/
theorem tw_xload {t ty : TypeId} {x : Operand} {ev : List (Tmp × SV)} {bl : Mem} {k : Tree} {e : Nat} {a : Addr} {v : Value}
    (hx : opv ev env gs x = some (.pointer (some a))) (ht : tyAgg P t = some false) (hc : ∀ W, Below w0.heap.size w0 W → W.cell? a = some v) (h1 : v.oneCell' = true) (hm : env.length = e)
    (hk : TWp P w0 R k L (env ++ [v]) gs) : TWp P w0 R (.calc (.load t x) ty ev bl (.leaf (.atom (.var e))) 1 k) L env gs :=
  tw_calc (fun _ a W ho _ he hW => by
    unfold execOp
    simp only [ho, opv_ok hx he, Instr.loadAt, Instr.sureAddr, Sem.run_bind, Sem.run_pure, Result.andThen_ok, loadVar, tyAgg_run ht, Bool.false_eq_true, if_false, run_load, hc W hW.1.below]) hm h1 hk

/-- are two arrays of ints the same? -/
theorem run_eqItems_is {d : Nat} {el : TypeId} (hu : P.underlying el = some (.int .i64)) (a b : List Int) (W : World) : ∀ l : List Nat, (∀ i ∈ l, i < a.length ∧ i < b.length) →
    (Op.eqItems (d + 1) el 1 (is a).toArray (is b).toArray l).run P W = .ok (decide (∀ i ∈ l, a.getD i 0 = b.getD i 0)) W
  | [], _ => by simp [Op.eqItems]
  | i :: l, h => by
    have hi := h i (by simp)
    have ih := run_eqItems_is (d := d) hu a b W l fun j hj => h j (List.mem_cons_of_mem _ hj)
    have ag : tyAgg P el = some false := by simp [tyAgg, hu]
    have p1 : ∀ c : List Int, i < c.length → (part el (is c).toArray (i * 1)).run P W = .ok (.int .i64 (c.getD i 0)) W := by
      intro c hc
      unfold part
      simp only [Sem.run_bind, tyAgg_run ag, Result.andThen_ok, Bool.false_eq_true, if_false, Nat.mul_one]
      have : (is c).toArray[i]? = some (.int .i64 (c.getD i 0)) := by
        have := is_get c i hc
        simpa using this
      rw [this]; rfl
    have e1 : (Op.equalIn (d + 1) el (.int .i64 (a.getD i 0)) (.int .i64 (b.getD i 0))).run P W = .ok (a.getD i 0 == b.getD i 0) W := run_equalIn_int W d el .i64 .i64 _ _ hu
    simp only [Op.eqItems, Sem.run_bind, p1 a hi.1, p1 b hi.2, Result.andThen_ok, e1]
    by_cases hab : a.getD i 0 = b.getD i 0
    · rw [hab]
      simp only [BEq.rfl, Bool.not_true, Bool.false_eq_true, if_false, ih]
      congr 1
      rw [decide_eq_decide]
      constructor
      · intro h j hj
        rcases List.mem_cons.1 hj with rfl | hj
        · exact hab
        · exact h j hj
      · exact fun h j hj => h j (List.mem_cons_of_mem _ hj)
    · have : (a.getD i 0 == b.getD i 0) = false := by simpa using hab
      simp only [this, Bool.not_false, if_true, Sem.run_pure]
      congr 1
      simp [hab]
      intro h1
      exact absurd h1 (by simpa using hab)
theorem tw_eqIs {t t' el ty : TypeId} {x y : Operand} {ev : List (Tmp × SV)} {bl : Mem} {k k' : Tree} {a b : List Int} {n : Nat} (c : Bool)
    (hx : opv ev env gs x = some (AG (is a))) (hy : opv ev env gs y = some (AG (is b))) (ht : P.underlying t = some (.array n el)) (hel : P.underlying el = some (.int .i64)) (hsz : tyN P el = some 1) (hg : P.eqGuardType P.depth t = false)
    (la : a.length = n) (lb : b.length = n) (hc : decide (a = b) = c)
    (htt : c = true → TWp P w0 R k L env gs) (hf : c = false → TWp P w0 R k' L env gs) :
    TWp P w0 R (.calc2 (.binOp .eql t x y t') ty ev bl (.leaf (.atom (.const (.bool true)))) 0 k (.leaf (.atom (.const (.bool false)))) 0 k') L env gs :=
  tw_calc2 c (fun o ac W ho _ he _ => by
    have hx' := opv_ok hx he
    have hy' := opv_ok hy he
    obtain ⟨i, hi⟩ : ∃ i, P.info? el = some i := by
      unfold tyN at hsz
      cases hq : P.info? el with
      | none => simp [hq] at hsz
      | some i => exact ⟨i, rfl⟩
    have hs1 : i.size = 1 := by simpa [tyN, hi] using hsz
    have e0 := run_eqItems_is (d := 9998) hel a b W (List.range n) (fun j hj => by rw [List.mem_range] at hj; omega)
    have e1 : (Op.equalIn 10000 t (AG (is a)) (AG (is b))).run P W = .ok c W := by
      have := run_equalIn_array W 9999 (is a).toArray (is b).toArray ht hi
      have hcs : P.cellsOf el = 1 := by simp [Program.cellsOf, hi, hs1]
      rw [hcs] at this
      refine this.trans (e0.trans ?_)
      congr 1
      rw [← hc]
      rw [decide_eq_decide]
      constructor
      · intro h
        apply List.ext_getElem (by omega)
        intro j h1 h2
        have := h j (by simpa using (by omega : j < n))
        simpa [List.getD, h1, h2] using this
      · rintro rfl j _; rfl
    have e2 : (eqGuard .eql t x y (AG (is a)) (AG (is b))).run P W = .ok () W := run_eqGuard_agg W .eql t x y _ _ hg
    have e3 : (binOp .eql t (AG (is a)) (AG (is b))).run P W = .ok (.bool c) W := by
      have := run_eql_struct (P := P) W t (is a).toArray (is b).toArray
      refine this.trans ?_
      have e1' : (Op.equalIn 10000 t (.agg (is a).toArray) (.agg (is b).toArray)).run P W = .ok c W := e1
      rw [e1']; rfl
    unfold execOp
    simp only [ho, hx', hy', Sem.run_bind, e2, Result.andThen_ok, e3, Sem.run_pure]) htt hf

/-! loops and arrays -/
/-- a loop told by a counter, and by something else: its values are f 0 s, f 1 s', .. up to f N -/
theorem tw_countS {σ : Type} {init : List Leaf} {ks : List Kd} {body : Tree} (N : Nat) (f : Nat → σ → List Value) (s0 : σ) (h0 : init.map (Leaf.den env gs) = f 0 s0)
    (step : ∀ (k : Nat) (s : σ) (p : List Value → Prop), k ≤ N → VarsOK ks (f k s) → (∀ j s', k < j → j ≤ N → p (f j s')) → TWp P w0 R body (L ++ [p]) (env ++ f k s) gs) : TWp P w0 R (.loop init ks body) L env gs := by
  -- the greatest number of which the values are so
  have ex : ∀ vs, (∃ k s, k ≤ N ∧ vs = f k s) → ∃ m, (m ≤ N ∧ ∃ s, vs = f (N - m) s) ∧ ∀ j, (j ≤ N ∧ ∃ s, vs = f (N - j) s) → m ≤ j := by
    intro vs ⟨k, s, hk, hv⟩
    refine exists_least (p := fun m => m ≤ N ∧ ∃ s, vs = f (N - m) s) (N - k) ⟨by omega, s, ?_⟩
    rw [hv]; congr 1; omega
  let M : List Value → Nat := fun vs => @dite _ (∃ k s, k ≤ N ∧ vs = f k s) (Classical.propDecidable _) (fun h => Classical.choose (ex vs h)) (fun _ => 0)
  have hM : ∀ vs, (∃ k s, k ≤ N ∧ vs = f k s) → (M vs ≤ N ∧ ∃ s, vs = f (N - M vs) s) ∧ ∀ j, (j ≤ N ∧ ∃ s, vs = f (N - j) s) → M vs ≤ j := by
    intro vs h
    have e : M vs = Classical.choose (ex vs h) := by simp only [M, dif_pos h]
    rw [e]; exact Classical.choose_spec (ex vs h)
  refine ⟨fun vs => ∃ k s, k ≤ N ∧ vs = f k s, M, ⟨0, s0, Nat.zero_le _, h0⟩, fun vs hv hI => ?_⟩
  obtain ⟨⟨m1, s, m2⟩, _⟩ := hM vs hI
  have hs := step (N - M vs) s (fun us => (∃ k s, k ≤ N ∧ us = f k s) ∧ M us < M vs) (by omega) (by rw [← m2]; exact hv) fun j s' hj hjN => by
    have hI2 : ∃ k s, k ≤ N ∧ f j s' = f k s := ⟨j, s', hjN, rfl⟩
    refine ⟨hI2, ?_⟩
    have := (hM (f j s') hI2).2 (N - j) ⟨by omega, s', by congr 1; omega⟩
    omega
  rw [← m2] at hs
  exact hs
/-- a loop told by a counter, and by what holds at each count -/
theorem tw_countI {init : List Leaf} {ks : List Kd} {body : Tree} (N : Nat) (I : Nat → List Value → Prop) (h0 : I 0 (init.map (Leaf.den env gs)))
    (step : ∀ (k : Nat) (vs : List Value) (p : List Value → Prop), k ≤ N → VarsOK ks vs → I k vs → (∀ j us, k < j → j ≤ N → I j us → p us) → TWp P w0 R body (L ++ [p]) (env ++ vs) gs) : TWp P w0 R (.loop init ks body) L env gs := by
  have ex : ∀ vs, (∃ k, k ≤ N ∧ I k vs) → ∃ m, (m ≤ N ∧ I (N - m) vs) ∧ ∀ j, (j ≤ N ∧ I (N - j) vs) → m ≤ j := by
    intro vs ⟨k, hk, hv⟩
    refine exists_least (p := fun m => m ≤ N ∧ I (N - m) vs) (N - k) ⟨by omega, ?_⟩
    have : N - (N - k) = k := by omega
    rw [this]; exact hv
  let M : List Value → Nat := fun vs => @dite _ (∃ k, k ≤ N ∧ I k vs) (Classical.propDecidable _) (fun h => Classical.choose (ex vs h)) (fun _ => 0)
  have hM : ∀ vs, (∃ k, k ≤ N ∧ I k vs) → (M vs ≤ N ∧ I (N - M vs) vs) ∧ ∀ j, (j ≤ N ∧ I (N - j) vs) → M vs ≤ j := by
    intro vs h
    have e : M vs = Classical.choose (ex vs h) := by simp only [M, dif_pos h]
    rw [e]; exact Classical.choose_spec (ex vs h)
  refine ⟨fun vs => ∃ k, k ≤ N ∧ I k vs, M, ⟨0, Nat.zero_le _, h0⟩, fun vs hv hI => ?_⟩
  obtain ⟨⟨m1, m2⟩, _⟩ := hM vs hI
  refine step (N - M vs) vs (fun us => (∃ k, k ≤ N ∧ I k us) ∧ M us < M vs) (by omega) hv m2 fun j us hj hjN hju => ?_
  have hI2 : ∃ k, k ≤ N ∧ I k us := ⟨j, hjN, hju⟩
  refine ⟨hI2, ?_⟩
  have e : N - (N - j) = j := by omega
  have := (hM us hI2).2 (N - j) ⟨by omega, by rw [e]; exact hju⟩
  omega
/-- a loop told by a counter: its values are f 0, f 1, .. up to f N -/
theorem tw_count {init : List Leaf} {ks : List Kd} {body : Tree} (N : Nat) (f : Nat → List Value) (h0 : init.map (Leaf.den env gs) = f 0)
    (step : ∀ (k : Nat) (p : List Value → Prop), k ≤ N → VarsOK ks (f k) → (∀ j, k < j → j ≤ N → p (f j)) → TWp P w0 R body (L ++ [p]) (env ++ f k) gs) : TWp P w0 R (.loop init ks body) L env gs :=
  tw_countS (σ := Unit) N (fun k _ => f k) () h0 fun k _ p hk hv hp => step k p hk hv fun j h1 h2 => hp j () h1 h2

/-- an append -/
theorem tw_app {kc : Option Nat} {new : List Seg} {t : Tree} {cs : List Value} (hc : (match kc with | some k => cellsAt env k | none => []) ++ catS env gs new = cs) (hl : cs.length ≤ 1000000)
    (ht : ∀ v : Value, v.oneCell' = true → TWp P w0 R t L (env ++ [v, AG cs]) gs) : TWp P w0 R (.app kc new t) L env gs := by
  subst hc; exact ⟨hl, ht⟩
theorem tw_again {j : Nat} {vals : List Leaf} {p : List Value → Prop} {us : List Value} (hj : L[j]? = some p) (hv : vals.map (Leaf.den env gs) = us) (hp : p us) : TWp P w0 R (.again j vals) L env gs := ⟨p, hj, by rw [hv]; exact hp⟩
theorem tw_bound {k cnt : Nat} {t : Tree} {kd : IntKind} {m : Int} (hk : env[k]? = some (.int kd m)) (h0 : 0 ≤ m) (h1 : m < (cnt : Int)) (ht : TWp P w0 R t L env gs) : TWp P w0 R (.bound k cnt t) L env gs := ⟨kd, m, hk, h0, h1, ht⟩
theorem tw_boundx {k j : Nat} {t : Tree} {kd : IntKind} {m : Int} (hk : env[k]? = some (.int kd m)) (h0 : 0 ≤ m) (h1 : m < (lenN (env.getD j undef) : Int)) (ht : TWp P w0 R t L env gs) : TWp P w0 R (.boundx k j t) L env gs := ⟨kd, m, hk, h0, h1, ht⟩
theorem tw_ldi {l : List Seg} {off k sc n : Nat} {t : Tree} {v : Value} (j : Nat) (hj : off + intN (env.getD k undef) * sc = j) (hv : (catS env gs l)[j]? = some v) (ht : TWp P w0 R t L (env ++ [v]) gs) : TWp P w0 R (.ldi l off k sc n false t) L env gs := by
  subst hj
  show (if false = true then _ else _)
  rw [if_neg (by simp)]
  exact ⟨v, hv, ht⟩
theorem tw_ldiA {l : List Seg} {off k sc n : Nat} {t : Tree} {cs : List Value} (j : Nat) (hj : off + intN (env.getD k undef) * sc = j) (hl : j + n ≤ (catS env gs l).length) (hc : ((catS env gs l).drop j).take n = cs) (ht : TWp P w0 R t L (env ++ [AG cs]) gs) :
    TWp P w0 R (.ldi l off k sc n true t) L env gs := by
  subst hj; subst hc
  show (if true = true then _ else _)
  rw [if_pos rfl]
  exact ⟨hl, ht⟩
theorem tw_sti {l new : List Seg} {off k sc n : Nat} {t : Tree} {cs : List Value} (j : Nat) (hj : off + intN (env.getD k undef) * sc = j) (hl : j + n ≤ (catS env gs l).length)
    (hc : (catS env gs l).take j ++ catS env gs new ++ (catS env gs l).drop (j + n) = cs) (ht : TWp P w0 R t L (env ++ [AG cs]) gs) : TWp P w0 R (.sti l off k sc n new t) L env gs := by
  subst hj; subst hc
  exact ⟨hl, ht⟩
/-- a load of, and a store into, a row of ints -/
theorem get_is {l : List Int} {i : Nat} (h : i < l.length) : (is l)[i]? = some (.int .i64 (l.getD i 0)) := by simp [is, List.getD, h]
theorem set_is {l : List Int} {i : Nat} {v : Int} (h : i < l.length) : (is l).take i ++ [Value.int .i64 v] ++ (is l).drop (i + 1) = is (l.set i v) := by
  have e : is (l.set i v) = (is l).set i (.int .i64 v) := by simp only [is, List.map_set]
  rw [e, List.set_eq_take_append_cons_drop, if_pos (by simpa using h)]
  simp
theorem intN_nat (kd : IntKind) (k : Nat) : intN (.int kd (k : Int)) = k := by simp [intN]

/-- an end -/
theorem tw_ret {bl : Mem} {v : SV} (h : ∀ W, Mm w0 W env gs bl → R (.returned (v.den env gs)) W) : TWp P w0 R (.ret bl v) L env gs := h
theorem tw_retV {bl : Mem} {v : SV} {x : Value} (hR : R = OutV x w0) (h : v.den env gs = x) : TWp P w0 R (.ret bl v) L env gs := fun W hW => by rw [hR, h]; exact ⟨rfl, hW.1.below⟩
theorem tw_retE {bl : Mem} {v : SV} {x : F} {l : List Int} (hR : R = OutE x w0) (h : v.den env gs = AG (us l)) (he : E l x) : TWp P w0 R (.ret bl v) L env gs := fun W hW => by rw [hR, h]; exact ⟨l, rfl, he, hW.1.below⟩
end
end Go.Proofs.Ytdpongijmmdnoaa
