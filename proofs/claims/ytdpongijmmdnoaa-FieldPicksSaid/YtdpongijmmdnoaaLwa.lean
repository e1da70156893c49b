/- contracts of chapter 4 as steps of a tree -/
import Derived.Test.YtdpongijmmdnoaaRefd
import Derived.Laws.Small
namespace Go.Proofs.Ytdpongijmmdnoaa
open Go.RowKit FdP FdP.Ch

section
variable {w0 : World} {R : Ending → World → Prop} {L : List (List Value → Prop)} {env : List Value} {gs : List Nat}
/-- an element, and a constant -/
theorem tw_EC {f : FuncId} {args : List Leaf} {bl : Mem} {k : Tree} {m : Nat} {v : Value} (x : F)
    (hc : ∀ W, Mm w0 W env gs bl → Calls Try.prog f (args.map (Leaf.den env gs)).toArray W fun e w' => ∃ l, e = .returned (.tuple #[AG (us l), v]) ∧ E l x ∧ Fut W w')
    (hm : env.length = m) (h1 : v.oneCell' = true) (hk : ∀ l, E l x → TWp Try.prog w0 R k L (env ++ [AG (us l)]) gs) :
    TWp Try.prog w0 R (.call f args bl (.tup [.agg [.whole m 8], .atom (.const v)]) 1 [] k) L env gs := by
  refine tw_call _ hc fun W e w' ⟨l, he, hE, hF⟩ => ⟨[AG (us l)], rfl, ?_, ?_, hF, hk l hE⟩
  · rw [he]; simp only [SV.den, Leaf.den, catS, Seg.den, AG, cells_new hm, List.map_cons, List.map_nil, Atom.den]
  · intro x hx
    simp only [List.mem_cons, List.not_mem_nil, or_false] at hx
    rcases hx with rfl | rfl
    · intro s hs; simp only [List.mem_singleton] at hs; subst hs; exact agg_new hm (by simp [hE.len]) (us_one l)
    · exact h1
/-- two elements -/
theorem tw_EE {f : FuncId} {args : List Leaf} {bl : Mem} {k : Tree} {m m' : Nat} (x y : F)
    (hc : ∀ W, Mm w0 W env gs bl → Calls Try.prog f (args.map (Leaf.den env gs)).toArray W fun e w' => ∃ l l', e = .returned (.tuple #[AG (us l), AG (us l')]) ∧ E l x ∧ E l' y ∧ Fut W w')
    (hm : env.length = m) (hm' : m + 1 = m') (hk : ∀ l l', E l x → E l' y → TWp Try.prog w0 R k L (env ++ [AG (us l), AG (us l')]) gs) :
    TWp Try.prog w0 R (.call f args bl (.tup [.agg [.whole m 8], .agg [.whole m' 8]]) 2 [] k) L env gs := by
  subst hm; subst hm'
  have c0 : ∀ a b : List Value, cellsAt (env ++ [.agg a.toArray, .agg b.toArray]) env.length = a := fun a b => by simp [cellsAt, List.getD, Value.cells]
  have c1 : ∀ a b : List Value, cellsAt (env ++ [.agg a.toArray, .agg b.toArray]) (env.length + 1) = b := fun a b => by simp [cellsAt, List.getD, Value.cells]
  refine tw_call _ hc fun W e w' ⟨l, l', he, hE, hE', hF⟩ => ⟨[AG (us l), AG (us l')], rfl, ?_, ?_, hF, hk l l' hE hE'⟩
  · rw [he]; simp only [SV.den, Leaf.den, catS, Seg.den, AG, c0, c1, List.map_cons, List.map_nil]
  · intro x hx
    simp only [List.mem_cons, List.not_mem_nil, or_false] at hx
    rcases hx with rfl | rfl <;> intro s hs <;> simp only [List.mem_singleton] at hs <;> subst hs
    · exact ⟨us l, by simp [AG], by simp [hE.len], us_one _⟩
    · exact ⟨us l', by simp [AG], by simp [hE'.len], us_one _⟩
/-- two truths, unlike? -/
theorem tlB : Try.prog.underlying 4 = some .bool := by kernel_rfl
theorem bin_neB (p q : Bool) (W : World) : (binOp .neq 4 (.bool p) (.bool q)).run Try.prog W = .ok (.bool (!(p == q))) W := run_neq_bool W _ p q tlB
theorem bin_eqB (p q : Bool) (W : World) : (binOp .eql 4 (.bool p) (.bool q)).run Try.prog W = .ok (.bool (p == q)) W := run_eql_bool W _ p q tlB
theorem run_binB {o : Oper} {a : Act} {op : BinOp} {xt yt : TypeId} {x y : Operand} {p q : Bool} {v : Value} (hop : o.op = .binOp op xt x y yt) (hx : a.eval x = .bool p) (hy : a.eval y = .bool q) {W : World}
    (hb : (binOp op xt (.bool p) (.bool q)).run Try.prog W = .ok v W) : (execOp a.eval o).run Try.prog W = .ok (.value v) W := by
  have hg : (eqGuard op xt x y (.bool p) (.bool q)).run Try.prog W = .ok () W := by unfold eqGuard; cases op <;> rfl
  unfold execOp
  simp only [hop, hx, hy, Sem.run_bind, hg, Result.andThen_ok, hb, Sem.run_pure]
theorem tw_cmpB {op : BinOp} {xt yt ty : TypeId} {x y : Operand} {ev : List (Tmp × SV)} {bl : Mem} {k k' : Tree} {p q : Bool} (c : Bool)
    (hx : opv ev env gs x = some (.bool p)) (hy : opv ev env gs y = some (.bool q)) (hb : ∀ W, (binOp op xt (.bool p) (.bool q)).run Try.prog W = .ok (.bool c) W)
    (ht : c = true → TWp Try.prog w0 R k L env gs) (hf : c = false → TWp Try.prog w0 R k' L env gs) :
    TWp Try.prog w0 R (.calc2 (.binOp op xt x y yt) ty ev bl (.leaf (.atom (.const (.bool true)))) 0 k (.leaf (.atom (.const (.bool false)))) 0 k') L env gs :=
  tw_calc2 c (fun _ _ W ho _ he _ => run_binB ho (opv_ok hx he) (opv_ok hy he) (hb W)) ht hf
end

theorem made_c (b : List Int) (lb : b.length = 56) (yb : By b) (W : World) : Calls Try.prog 11 #[AG (ys b)] W fun e w' => ∃ l, e = .returned (.tuple #[AG (us l), .bool true]) ∧ E l (z (bval b)) ∧ Fut W w' :=
  (made_any b lb W).mono fun e w' ⟨h1, h2⟩ => ⟨_, h1, of_E b lb yb, h2⟩
theorem add_c {l m : List Int} {a b : F} (hl : E l a) (hm : E m b) (W : World) : Calls Try.prog 14 #[AG (us l), AG (us m)] W (OutE (a + b) W) := (add_e hl hm W).mono fun _ _ ⟨h1, h2⟩ => ⟨_, h1, add_E hl hm, h2⟩
theorem sub_c {l m : List Int} {a b : F} (hl : E l a) (hm : E m b) (W : World) : Calls Try.prog 16 #[AG (us l), AG (us m)] W (OutE (a - b) W) := (sub_e hl hm W).mono fun _ _ ⟨h1, h2⟩ => ⟨_, h1, sub_E hl hm, h2⟩
theorem mul_c {l m : List Int} {a b : F} (hl : E l a) (hm : E m b) (W : World) : Calls Try.prog 34 #[AG (us l), AG (us m)] W (OutE (a * b) W) := (mul_e hl hm W).mono fun _ _ ⟨h1, h2⟩ => ⟨_, h1, mul_E hl hm, h2⟩
theorem square_c {l : List Int} {a : F} (hl : E l a) (W : World) : Calls Try.prog 38 #[AG (us l)] W (OutE (a * a) W) := (square_e hl W).mono fun _ _ ⟨h1, h2⟩ => ⟨_, h1, mul_E hl hl, h2⟩
theorem neg_c {l : List Int} {a : F} (hl : E l a) (W : World) : Calls Try.prog 18 #[AG (us l)] W (OutE (-a) W) := (neg_e hl W).mono fun _ _ ⟨h1, h2⟩ => ⟨_, h1, neg_E hl, h2⟩
theorem times_c {l : List Int} {a : F} (hl : E l a) (n : Int) (h0 : -9223372036854775808 ≤ n) (h1 : n < 9223372036854775808) (W : World) : Calls Try.prog 39 #[AG (us l), .int .i64 n] W (OutE (a * z n) W) := (times_e hl n W).mono fun _ _ ⟨q1, q2⟩ => ⟨_, q1, times_E hl n h0 h1, q2⟩
theorem int_c (n : Int) (h0 : -9223372036854775808 ≤ n) (h1 : n < 9223372036854775808) (W : World) : Calls Try.prog 35 #[.int .i64 n] W (OutE (z n) W) := (int_any n W).mono fun _ _ ⟨q1, q2⟩ => ⟨_, q1, int_E n h0 h1, q2⟩
theorem equal_c {l m : List Int} {a b : F} (hl : E l a) (hm : E m b) (W : World) : Calls Try.prog 22 #[AG (us l), AG (us m)] W (OutV (.bool (decide (a = b))) W) := equal_e hl hm _ rfl W
theorem zero_c {l : List Int} {a : F} (hl : E l a) (W : World) : Calls Try.prog 24 #[AG (us l)] W (OutV (.bool (decide (a = 0))) W) := zero_e hl _ rfl W
theorem awake_c (W : World) : Calls Try.prog 20 #[] W (OutV (.bool true) W) := awake_any W
end Go.Proofs.Ytdpongijmmdnoaa
