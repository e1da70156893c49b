/- joined: Awk Stab Ee Eqb Dec Pby -/
import Derived.Test.YtohjkkmgcibemaaJ3
set_option linter.unusedSimpArgs false
set_option linter.unusedVariables false
/- chicorylaw04.awake -/
namespace Go.Proofs.Ytohjkkmgcibemaa
open Go.RowKit FdP FdP.Ch

end Go.Proofs.Ytohjkkmgcibemaa
/- A region that draws its order, of which every operation yields one value and keeps S, calls among them. Over any program. -/
namespace Go.Proofs.Ytohjkkmgcibemaa
open Go.RowKit

section
variable {P : Program} {ops : Array Oper} {Q : Exit → Act → World → Prop} {S : World → Prop}

def Stab (P : Program) (ops : Array Oper) (S : World → Prop) (o : Oper) (v : Value) (a : Act) : Prop :=
 (Region.wanted o (yielded ops a.tmps) = true ∧ ∀ w, S w → (∃ w', (execOp a.eval o).run P w = .ok (.value v) w' ∧ S w') ∨
   (∃ f args w', (execOp a.eval o).run P w = .ok (.enter f args) w' ∧ Calls P f args w' fun e w'' => e = .returned v ∧ S w'')) ∨
 (Region.wanted o (yielded ops a.tmps) = false ∧ v = undef)

theorem Stab.wpOp {i : Nat} {o : Oper} {v : Value} {a : Act} (hi : ops[i]? = some o) (hy : Stab P ops S o v a) {K : Act → World → Prop} {w : World} (hS : S w)
 (h : ∀ w', S w' → K (a.put o.dst v) w') : wpOp P ops Q i K a w := by
 unfold Go.wpOp
 simp only [hi]
 rcases hy with ⟨hw, hv⟩ | ⟨hw, rfl⟩
 ·simp only [hw, if_true, Oper.wp]
  refine .inl ?_
  rcases hv w hS with ⟨w', hr, hS'⟩ | ⟨f, args, w', hr, hc⟩
  ·rw [hr]; exact h w' hS'
  ·rw [hr]
   refine Calls.mono hc fun e w'' he => ?_
   obtain ⟨rfl, hS'⟩ := he
   exact h w'' hS'
 ·simp only [hw, Bool.false_eq_true, if_false]; exact h w hS

theorem wpOp_shape {j : Nat} {oj : Oper} (hj : ops[j]? = some oj) {K : Act → World → Prop} {a : Act} {w : World} (h : wpOp P ops Q j K a w) :
 wpOp P ops Q j (fun a' w' => K a' w' ∧ ∃ u ds, a' = { a.put oj.dst u with defers := ds }) a w := by
 have put : ∀ u, ∃ v ds, a.put oj.dst u = { a.put oj.dst v with defers := ds } := fun u => ⟨u, (a.put oj.dst u).defers, rfl⟩
 unfold Go.wpOp at *
 simp only [hj] at *
 split
 ·rename_i hw
  simp only [hw, if_true] at h
  rcases h with h | h
  case inr => exact .inr h
  refine .inl ?_
  unfold Oper.wp at *
  generalize (execOp a.eval oj).run P w = r at *
  cases r with
  | ok n w' =>
   cases n <;> simp only [Oper.upon] at h ⊢
   case value u => exact ⟨h, put u⟩
   case skip => exact ⟨h, put _⟩
   case defer d =>
    refine ⟨h, undef, d :: a.defers, ?_⟩
    cases oj.dst <;> rfl
   case enter f args =>
    refine Calls.mono h fun e w'' he => ?_
    cases e with
    | returned u => exact ⟨he, put u⟩
    | panicked c => exact he
    | outgrown => exact he
   case row row args => exact Rows.mono h fun u w'' he => ⟨he, put u⟩
  | halt x w' =>
   cases x <;> simp only [Oper.upon] at h ⊢
   case panic u => exact h
 ·rename_i hw
  simp only [hw, Bool.false_eq_true, if_false] at h
  exact ⟨h, put _⟩

theorem Stab.keep {oi oj : Oper} {v : Value} {a a' : Act} (hs : ∀ cs b, oi.op ≠ .select cs b) (h3 : ∀ d, oj.dst = some d → d ∉ oi.looksAt ops) (hy : Stab P ops S oi v a)
 (h : ∃ u ds, a' = { a.put oj.dst u with defers := ds }) : Stab P ops S oi v a' := by
 obtain ⟨u, ds, rfl⟩ := h
 have e1 : execOp ({ a.put oj.dst u with defers := ds } : Act).eval oi = execOp a.eval oi := execOp_put oi hs a oj.dst u h3
 have e2 : Region.wanted oi (yielded ops ({ a.put oj.dst u with defers := ds } : Act).tmps) = Region.wanted oi (yielded ops a.tmps) := wanted_put oi a oj.dst u h3
 unfold Stab at *
 rw [e1, e2]
 exact hy

theorem Stab.idle {o : Oper} {v : Value} {a : Act} (hy : Stab P ops S o v a) : YieldsIf P ops (fun _ => False) o v a :=
 hy.imp (fun h => ⟨h.1, fun _ hf => hf.elim⟩) id

def AnyS (P : Program) (ops : Array Oper) (Q : Exit → Act → World → Prop) (S : World → Prop) : Nat → Array Bool → Act → Prop
 | 0, listed, a => Region.ready .any ops listed = [] ∧ ∀ w, S w → Q .normal a w
 | fuel + 1, listed, a =>
  (Region.ready .any ops listed = [] → ∀ w, S w → Q .normal a w) ∧
  ∀ i ∈ Region.ready .any ops listed, ∀ w, S w → wpOp P ops Q i (fun a' w' => S w' ∧ AnyS P ops Q S fuel (listed.setIfInBounds i true) a') a w

theorem AnyS.any : ∀ (fuel : Nat) (listed : Array Bool) (a : Act) (w : World), S w → AnyS P ops Q S fuel listed a → wpAny P .any ops Q fuel listed a w
 | 0, _, _, w, hS, h => ⟨h.1, h.2 w hS⟩
 | fuel + 1, _, _, w, hS, h => ⟨fun hr => h.1 hr w hS, fun i hi => wpOp_mono (fun a' w' h' => AnyS.any fuel _ a' w' h'.1 h'.2) (h.2 i hi w hS)⟩

theorem AnyS.first {i : Nat} {oi : Oper} {v : Value} (hi : ops[i]? = some oi)
 (hsel : ∀ (j : Nat) (o : Oper) cs b, ops[j]? = some o → o.op ≠ .select cs b)
 (hQ : ∀ c a w, Q (.panic c) (a.put oi.dst v) w → Q (.panic c) a w) :
 ∀ (fuel : Nat) (listed : Array Bool) (a : Act),
  (∀ j oj, ops[j]? = some oj → j ≠ i → listed.getD j true = false → (∀ e ∈ oj.after, Region.binds .any e = true → e.on ≠ i) → oi.apart ops oj = true) →
  i ∈ Region.ready .any ops listed → Stab P ops S oi v a →
  AnyS P ops Q S fuel (listed.setIfInBounds i true) (a.put oi.dst v) → AnyS P ops Q S (fuel + 1) listed a := by
 intro fuel
 induction fuel with
 | zero =>
  intro listed a _ hr hy H
  refine ⟨fun h => (by rw [h] at hr; cases hr), fun j hj w hS => ?_⟩
  by_cases hji : j = i
  ·subst hji; exact hy.wpOp hi hS fun w' hS' => ⟨hS', H⟩
  ·have := ready_mono hj hji
   rw [H.1] at this; cases this
 | succ fuel ih =>
  intro listed a hfree hr hy H
  refine ⟨fun h => (by rw [h] at hr; cases hr), fun j hj w hS => ?_⟩
  by_cases hji : j = i
  ·subst hji; exact hy.wpOp hi hS fun w' hS' => ⟨hS', H⟩
  ·obtain ⟨hjn, oj, hoj, hall⟩ := mem_ready.1 hj
   have hin := (mem_ready.1 hr).1
   have hun : listed.getD i false = false := by
    cases h0 : listed[i]? with
    | none => simp [h0]
    | some b => simp [h0] at hin; simp [h0, hin]
   have hno : ∀ e ∈ oj.after, Region.binds .any e = true → e.on ≠ i := fun e he hb heq => by
    have h1 := hall e he hb
    rw [heq, hun] at h1; cases h1
   have hap := hfree j oj hoj hji hjn hno
   have h1 := H.2 j (ready_mono hj hji) w hS
   have h2 := wpOp_shape hoj (wpOp_putIf hoj hap (fun cs b => hsel i oi cs b hi) (fun cs b => hsel j oj cs b hoj) hQ hy.idle h1)
   refine wpOp_mono (fun a' w' h3 => ⟨h3.1.2.1, ih (listed.setIfInBounds j true) a' (fun k ok hk hki hkn hkno => ?_) (ready_mono hr (Ne.symm hji)) (hy.keep (fun cs b => hsel i oi cs b hi) (Oper.apart_spec hap).2.2 h3.2) ?_⟩) h2
   ·by_cases hjk : j = k
    ·subst hjk; exact hfree j ok hk hki hjn hkno
    ·rw [getD_set_ne true hjk] at hkn; exact hfree k ok hk hki hkn hkno
   ·rw [Array.setIfInBounds_comm _ _ hji]; exact h3.1.2.2

variable {i : Nat} {r : List Nat} {a : Act} {o : Oper}

end
end Go.Proofs.Ytohjkkmgcibemaa
/- contracts with the elements told; a load that a guard lets by -/
namespace Go.Proofs.Ytohjkkmgcibemaa
open Go.RowKit FdP FdP.Ch

section
variable {P : Program} {ops : Array Oper} {rest : List Oper} {o : Oper} {a : Act} {w w0 : World} {Q : Exit → Act → World → Prop} {bs : List (Nat × List Value × TypeId)}
end

theorem mul_e {l m : List Int} {a b : F} (hl : E l a) (hm : E m b) (w : World) : Calls Try.prog 20 #[AG (us l), AG (us m)] w fun e w' => e = .returned (AG (us (mulF l m))) ∧ Below w.heap.size w w' := mul_any l m hl.len hm.len hl.bd hm.bd w
theorem square_e {l : List Int} {a : F} (hl : E l a) (w : World) : Calls Try.prog 22 #[AG (us l)] w fun e w' => e = .returned (AG (us (mulF l l))) ∧ Below w.heap.size w w' := square_any l hl.len hl.bd w
theorem neg_e {l : List Int} {a : F} (hl : E l a) (w : World) : Calls Try.prog 30 #[AG (us l)] w fun e w' => e = .returned (AG (us (negF l))) ∧ Below w.heap.size w w' := neg_any l hl.len w
theorem equal_e {l m : List Int} {a b : F} (hl : E l a) (hm : E m b) (v : Bool) (hv : decide (a = b) = v) (w : World) : Calls Try.prog 21 #[AG (us l), AG (us m)] w fun e w' => e = .returned (.bool v) ∧ Below w.heap.size w w' := by
 have := equal_any l m hl.len hm.len w
 rwa [eq_law hl hm, hv] at this
end Go.Proofs.Ytohjkkmgcibemaa
/- chicorylaw01.Bytes, slices.Equal: are two slices of bytes the same -/
namespace Go.Proofs.Ytohjkkmgcibemaa
open Go.RowKit FdP FdP.Ch

def Sv (w : World) (v : Value) (xs : List Int) : Prop :=
 ∃ (a : Option Addr) (cap : Nat), v = .slice a xs.length cap ∧ (0 < xs.length → ∃ g off, a = some ⟨g, off, none⟩ ∧ Rd w g off xs)
theorem Sv.below {w w' : World} {v : Value} {xs : List Int} (h : Sv w v xs) (hb : Below w.heap.size w w') : Sv w' v xs := by
 obtain ⟨a, cap, e, h⟩ := h
 exact ⟨a, cap, e, fun hx => by obtain ⟨g, off, ea, hr⟩ := h hx; exact ⟨g, off, ea, hr.below hb⟩⟩
theorem Sl.sv {w w' : World} {v : Value} {xs : List Int} (h : Sl w w' v xs) : Sv w' v xs := by
 obtain ⟨g, cap, sp, e, _, ho⟩ := h
 exact ⟨_, cap, e, fun _ => ⟨g, 0, rfl, ho.rd⟩⟩
end Go.Proofs.Ytohjkkmgcibemaa
/- slices.Equal, field.Decode -/
namespace Go.Proofs.Ytohjkkmgcibemaa
open Go.RowKit FdP FdP.Ch

end Go.Proofs.Ytohjkkmgcibemaa
/- plain law: an element's bytes -/
namespace Go.Proofs.Ytohjkkmgcibemaa
open Go.RowKit FdP FdP.Ch

theorem pow56 (i : Nat) : (2 : Int) ^ (8 * (7 * i)) = 72057594037927936 ^ i := by
 rw [show 8 * (7 * i) = 56 * i by omega, Int.pow_mul]; rfl

theorem bytes_eq {l : List Int} {a : F} (h : E l a) : bytesF l = rawF (dig a.val) := by unfold bytesF; rw [strong_E h]
end Go.Proofs.Ytohjkkmgcibemaa
