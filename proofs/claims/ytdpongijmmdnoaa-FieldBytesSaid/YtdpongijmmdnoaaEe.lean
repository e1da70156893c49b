/- contracts with the elements told; a load that a guard lets by -/
import Derived.Test.YtdpongijmmdnoaaAwk
import Derived.Test.YtdpongijmmdnoaaStab
namespace Go.Proofs.Ytdpongijmmdnoaa
open Go.RowKit FdP FdP.Ch

section
variable {P : Program} {ops : Array Oper} {rest : List Oper} {o : Oper} {a : Act} {w w0 : World} {Q : Exit → Act → World → Prop} {bs : List (Nat × List Value × TypeId)}
theorem wpList_loadg_st (hw : Region.wanted o (yielded ops a.tmps) = true) (ty : TypeId) (x : Operand) (ho : o.op = .load ty x) (g off : Nat)
    (hx : a.eval x = .pointer (some ⟨g, off, none⟩)) (n : Nat) (ha : AggSize P ty n) (st : St w0 w bs) (i : Nat) (cs : List Value) (t : TypeId) (v : Value) (hi : bs[i]? = some (g, cs, t))
    (hle : off + n ≤ cs.length) (hv : v = .agg ((cs.drop off).take n).toArray)
    (h : wpList P ops Q rest (a.put o.dst v) w) : wpList P ops Q (o :: rest) a w := by
  refine wpList_step fun K hK => ?_
  simp only [hw, if_true]
  unfold Oper.wp execOp
  simp only [ho, hx, Instr.loadAt, Instr.sureAddr, Sem.run_bind, Sem.run_pure, Result.andThen_ok, run_loadVar_own w g off t ty cs n (st.get i hi) ha hle]
  rw [← hv]
  exact hK _ _ h
end

theorem add_e {l m : List Int} {a b : F} (hl : E l a) (hm : E m b) (w : World) : Calls Try.prog 14 #[AG (us l), AG (us m)] w fun e w' => e = .returned (AG (us (addF l m))) ∧ Below w.heap.size w w' := add_any l m hl.len hm.len w
theorem sub_e {l m : List Int} {a b : F} (hl : E l a) (hm : E m b) (w : World) : Calls Try.prog 16 #[AG (us l), AG (us m)] w fun e w' => e = .returned (AG (us (subF l m))) ∧ Below w.heap.size w w' := sub_any l m hl.len hm.len w
theorem mul_e {l m : List Int} {a b : F} (hl : E l a) (hm : E m b) (w : World) : Calls Try.prog 34 #[AG (us l), AG (us m)] w fun e w' => e = .returned (AG (us (mulF l m))) ∧ Below w.heap.size w w' := mul_any l m hl.len hm.len hl.bd hm.bd w
theorem square_e {l : List Int} {a : F} (hl : E l a) (w : World) : Calls Try.prog 38 #[AG (us l)] w fun e w' => e = .returned (AG (us (mulF l l))) ∧ Below w.heap.size w w' := square_any l hl.len hl.bd w
theorem neg_e {l : List Int} {a : F} (hl : E l a) (w : World) : Calls Try.prog 18 #[AG (us l)] w fun e w' => e = .returned (AG (us (negF l))) ∧ Below w.heap.size w w' := neg_any l hl.len w
theorem times_e {l : List Int} {a : F} (hl : E l a) (n : Int) (w : World) : Calls Try.prog 39 #[AG (us l), .int .i64 n] w fun e w' => e = .returned (AG (us (mulF l (intF n)))) ∧ Below w.heap.size w w' := times_any l n hl.len hl.bd (intF_bd n) w
theorem equal_e {l m : List Int} {a b : F} (hl : E l a) (hm : E m b) (v : Bool) (hv : decide (a = b) = v) (w : World) : Calls Try.prog 22 #[AG (us l), AG (us m)] w fun e w' => e = .returned (.bool v) ∧ Below w.heap.size w w' := by
  have := equal_any l m hl.len hm.len w
  rwa [eq_law hl hm, hv] at this
theorem zero_e {l : List Int} {a : F} (hl : E l a) (v : Bool) (hv : decide (a = 0) = v) (w : World) : Calls Try.prog 24 #[AG (us l)] w fun e w' => e = .returned (.bool v) ∧ Below w.heap.size w w' := by
  have := zero_any l hl.len hl.bd w
  rwa [zero_law hl, hv] at this
theorem times_E {l : List Int} {a : F} (hl : E l a) (n : Int) (h0 : -9223372036854775808 ≤ n) (h1 : n < 9223372036854775808) : E (mulF l (intF n)) (a * z n) := mul_E hl (int_E n h0 h1)
end Go.Proofs.Ytdpongijmmdnoaa
