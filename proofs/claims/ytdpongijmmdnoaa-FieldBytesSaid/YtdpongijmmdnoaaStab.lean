/- A region that draws its order, of which every operation yields one value and keeps S, calls among them. Over any program. -/
import Derived.Test.YtdpongijmmdnoaaOrd
namespace Go.Proofs.Ytdpongijmmdnoaa
open Go.RowKit

section
variable {P : Program} {ops : Array Oper} {Q : Exit → Act → World → Prop} {S : World → Prop}

/-- in every world that meets S: it leaves v and a world that meets S -/
def Stab (P : Program) (ops : Array Oper) (S : World → Prop) (o : Oper) (v : Value) (a : Act) : Prop :=
  (Region.wanted o (yielded ops a.tmps) = true ∧ ∀ w, S w → (∃ w', (execOp a.eval o).run P w = .ok (.value v) w' ∧ S w') ∨
    (∃ f args w', (execOp a.eval o).run P w = .ok (.enter f args) w' ∧ Calls P f args w' fun e w'' => e = .returned v ∧ S w'')) ∨
  (Region.wanted o (yielded ops a.tmps) = false ∧ v = undef)

theorem Stab.wpOp {i : Nat} {o : Oper} {v : Value} {a : Act} (hi : ops[i]? = some o) (hy : Stab P ops S o v a) {K : Act → World → Prop} {w : World} (hS : S w)
    (h : ∀ w', S w' → K (a.put o.dst v) w') : wpOp P ops Q i K a w := by
  unfold Go.wpOp
  simp only [hi]
  rcases hy with ⟨hw, hv⟩ | ⟨hw, rfl⟩
  · simp only [hw, if_true, Oper.wp]
    refine .inl ?_
    rcases hv w hS with ⟨w', hr, hS'⟩ | ⟨f, args, w', hr, hc⟩
    · rw [hr]; exact h w' hS'
    · rw [hr]
      refine Calls.mono hc fun e w'' he => ?_
      obtain ⟨rfl, hS'⟩ := he
      exact h w'' hS'
  · simp only [hw, Bool.false_eq_true, if_false]; exact h w hS

/-- what an operation leaves of the state -/
theorem wpOp_shape {j : Nat} {oj : Oper} (hj : ops[j]? = some oj) {K : Act → World → Prop} {a : Act} {w : World} (h : wpOp P ops Q j K a w) :
    wpOp P ops Q j (fun a' w' => K a' w' ∧ ∃ u ds, a' = { a.put oj.dst u with defers := ds }) a w := by
  have put : ∀ u, ∃ v ds, a.put oj.dst u = { a.put oj.dst v with defers := ds } := fun u => ⟨u, (a.put oj.dst u).defers, rfl⟩
  unfold Go.wpOp at *
  simp only [hj] at *
  split
  · rename_i hw
    simp only [hw, if_true] at h
    rcases h with h | h
    case inr => exact .inr h
    refine .inl ?_
    unfold Oper.wp at *
    generalize (execOp a.eval oj).run P w = r at *
    cases r with
    | ok n w' =>
      cases n <;> simp only [Oper.upon] at h ⊢
      case value u => exact ⟨h, put u⟩
      case skip => exact ⟨h, put _⟩
      case defer d =>
        refine ⟨h, undef, d :: a.defers, ?_⟩
        cases oj.dst <;> rfl
      case enter f args =>
        refine Calls.mono h fun e w'' he => ?_
        cases e with
        | returned u => exact ⟨he, put u⟩
        | panicked c => exact he
        | outgrown => exact he
      case row row args => exact Rows.mono h fun u w'' he => ⟨he, put u⟩
    | halt x w' =>
      cases x <;> simp only [Oper.upon] at h ⊢
      case panic u => exact h
  · rename_i hw
    simp only [hw, Bool.false_eq_true, if_false] at h
    exact ⟨h, put _⟩

theorem Stab.keep {oi oj : Oper} {v : Value} {a a' : Act} (hs : ∀ cs b, oi.op ≠ .select cs b) (h3 : ∀ d, oj.dst = some d → d ∉ oi.looksAt ops) (hy : Stab P ops S oi v a)
    (h : ∃ u ds, a' = { a.put oj.dst u with defers := ds }) : Stab P ops S oi v a' := by
  obtain ⟨u, ds, rfl⟩ := h
  have e1 : execOp ({ a.put oj.dst u with defers := ds } : Act).eval oi = execOp a.eval oi := execOp_put oi hs a oj.dst u h3
  have e2 : Region.wanted oi (yielded ops ({ a.put oj.dst u with defers := ds } : Act).tmps) = Region.wanted oi (yielded ops a.tmps) := wanted_put oi a oj.dst u h3
  unfold Stab at *
  rw [e1, e2]
  exact hy

theorem Stab.idle {o : Oper} {v : Value} {a : Act} (hy : Stab P ops S o v a) : YieldsIf P ops (fun _ => False) o v a :=
  hy.imp (fun h => ⟨h.1, fun _ hf => hf.elim⟩) id

/-- whatever order is picked from here on, from whatever world that meets S -/
def AnyS (P : Program) (ops : Array Oper) (Q : Exit → Act → World → Prop) (S : World → Prop) : Nat → Array Bool → Act → Prop
  | 0, listed, a => Region.ready .any ops listed = [] ∧ ∀ w, S w → Q .normal a w
  | fuel + 1, listed, a =>
    (Region.ready .any ops listed = [] → ∀ w, S w → Q .normal a w) ∧
    ∀ i ∈ Region.ready .any ops listed, ∀ w, S w → wpOp P ops Q i (fun a' w' => S w' ∧ AnyS P ops Q S fuel (listed.setIfInBounds i true) a') a w

theorem AnyS.any : ∀ (fuel : Nat) (listed : Array Bool) (a : Act) (w : World), S w → AnyS P ops Q S fuel listed a → wpAny P .any ops Q fuel listed a w
  | 0, _, _, w, hS, h => ⟨h.1, h.2 w hS⟩
  | fuel + 1, _, _, w, hS, h => ⟨fun hr => h.1 hr w hS, fun i hi => wpOp_mono (fun a' w' h' => AnyS.any fuel _ a' w' h'.1 h'.2) (h.2 i hi w hS)⟩

theorem AnyS.first {i : Nat} {oi : Oper} {v : Value} (hi : ops[i]? = some oi)
    (hsel : ∀ (j : Nat) (o : Oper) cs b, ops[j]? = some o → o.op ≠ .select cs b)
    (hQ : ∀ c a w, Q (.panic c) (a.put oi.dst v) w → Q (.panic c) a w) :
    ∀ (fuel : Nat) (listed : Array Bool) (a : Act),
      (∀ j oj, ops[j]? = some oj → j ≠ i → listed.getD j true = false → (∀ e ∈ oj.after, Region.binds .any e = true → e.on ≠ i) → oi.apart ops oj = true) →
      i ∈ Region.ready .any ops listed → Stab P ops S oi v a →
      AnyS P ops Q S fuel (listed.setIfInBounds i true) (a.put oi.dst v) → AnyS P ops Q S (fuel + 1) listed a := by
  intro fuel
  induction fuel with
  | zero =>
    intro listed a _ hr hy H
    refine ⟨fun h => (by rw [h] at hr; cases hr), fun j hj w hS => ?_⟩
    by_cases hji : j = i
    · subst hji; exact hy.wpOp hi hS fun w' hS' => ⟨hS', H⟩
    · have := ready_mono hj hji
      rw [H.1] at this; cases this
  | succ fuel ih =>
    intro listed a hfree hr hy H
    refine ⟨fun h => (by rw [h] at hr; cases hr), fun j hj w hS => ?_⟩
    by_cases hji : j = i
    · subst hji; exact hy.wpOp hi hS fun w' hS' => ⟨hS', H⟩
    · obtain ⟨hjn, oj, hoj, hall⟩ := mem_ready.1 hj
      have hin := (mem_ready.1 hr).1
      have hun : listed.getD i false = false := by
        cases h0 : listed[i]? with
        | none => simp [h0]
        | some b => simp [h0] at hin; simp [h0, hin]
      have hno : ∀ e ∈ oj.after, Region.binds .any e = true → e.on ≠ i := fun e he hb heq => by
        have h1 := hall e he hb
        rw [heq, hun] at h1; cases h1
      have hap := hfree j oj hoj hji hjn hno
      have h1 := H.2 j (ready_mono hj hji) w hS
      have h2 := wpOp_shape hoj (wpOp_putIf hoj hap (fun cs b => hsel i oi cs b hi) (fun cs b => hsel j oj cs b hoj) hQ hy.idle h1)
      refine wpOp_mono (fun a' w' h3 => ⟨h3.1.2.1, ih (listed.setIfInBounds j true) a' (fun k ok hk hki hkn hkno => ?_) (ready_mono hr (Ne.symm hji)) (hy.keep (fun cs b => hsel i oi cs b hi) (Oper.apart_spec hap).2.2 h3.2) ?_⟩) h2
      · by_cases hjk : j = k
        · subst hjk; exact hfree j ok hk hki hjn hkno
        · rw [getD_set_ne true hjk] at hkn; exact hfree k ok hk hki hkn hkno
      · rw [Array.setIfInBounds_comm _ _ hji]; exact h3.1.2.2

/-- the operations in one order -/
def RunS (P : Program) (ops : Array Oper) (Q : Exit → Act → World → Prop) (S : World → Prop) : List Nat → Act → Prop
  | [], a => ∀ w, S w → Q .normal a w
  | i :: r, a => ∃ o v, ops[i]? = some o ∧ Stab P ops S o v a ∧ RunS P ops Q S r (a.put o.dst v)

def ordOkS (ops : Array Oper) : List Nat → Array Bool → Bool
  | [], listed => (Region.ready .any ops listed).isEmpty
  | i :: r, listed => Region.free .any ops listed i && (Region.ready .any ops listed).contains i && ordOkS ops r (listed.setIfInBounds i true)

theorem runS_sound (hs : Region.noSelect ops = true) (hQ : ∀ c a (d : Option Tmp) v w, Q (.panic c) (a.put d v) w → Q (.panic c) a w) :
    ∀ (ord : List Nat) (listed : Array Bool) (fuel : Nat) (a : Act), ordOkS ops ord listed = true → ord.length ≤ fuel → RunS P ops Q S ord a → AnyS P ops Q S fuel listed a := by
  intro ord
  induction ord with
  | nil =>
    intro listed fuel a hk _ h
    have hr : Region.ready .any ops listed = [] := by simpa [ordOkS] using hk
    cases fuel with
    | zero => exact ⟨hr, h⟩
    | succ f => exact ⟨fun _ => h, by rw [hr]; simp⟩
  | cons i r ih =>
    intro listed fuel a hk hf h
    obtain ⟨fuel, rfl⟩ : ∃ f, fuel = f + 1 := ⟨fuel - 1, by simp at hf; omega⟩
    have hf' : r.length ≤ fuel := by simp at hf; omega
    obtain ⟨o, v, ho, hy, h⟩ := h
    simp only [ordOkS, Bool.and_eq_true] at hk
    exact AnyS.first ho (Region.noSelect_spec hs) (fun c a w => hQ c a _ v w) fuel listed a (Region.free_spec ho hk.1.1) (by simpa using hk.1.2) hy (ih _ fuel _ hk.2 hf' h)

theorem wp_region_stab (ord : List Nat) (S : World → Prop) {id : Nat} {a : Act} {w : World} (hm : P.follows .mixedOrders = true) (hs : Region.noSelect ops = true)
    (hk : (ordOkS ops ord (Array.replicate ops.size false) && decide (ord.length ≤ ops.size)) = true)
    (hQ : ∀ c a (d : Option Tmp) v w, Q (.panic c) (a.put d v) w → Q (.panic c) a w) (hS : S w.drew)
    (h : RunS P ops Q S ord a) : (Code.region id ops true).wp P Q a w := by
  simp only [Bool.and_eq_true, decide_eq_true_eq] at hk
  exact wp_region_any hm (AnyS.any _ _ _ _ hS (runS_sound (S := S) hs hQ ord _ _ a hk.1 hk.2 h))

variable {i : Nat} {r : List Nat} {a : Act} {o : Oper}

theorem stab_nil (h : ∀ w, S w → Q .normal a w) : RunS P ops Q S [] a := h

theorem stab_quiet {v : Value} (ho : ops[i]? = some o) (hw : Region.wanted o (yielded ops a.tmps) = true) (hy : ∀ w, S w → (execOp a.eval o).run P w = .ok (.value v) w)
    (h : RunS P ops Q S r (a.put o.dst v)) : RunS P ops Q S (i :: r) a := ⟨o, v, ho, .inl ⟨hw, fun w hS => .inl ⟨w, hy w hS, hS⟩⟩, h⟩

theorem stab_pass (ho : ops[i]? = some o) (hw : Region.wanted o (yielded ops a.tmps) = false) (h : RunS P ops Q S r (a.put o.dst undef)) : RunS P ops Q S (i :: r) a := ⟨o, undef, ho, .inr ⟨hw, rfl⟩, h⟩

theorem stab_load (ho : ops[i]? = some o) (hw : Region.wanted o (yielded ops a.tmps) = true) (ty : TypeId) (x : Operand) (hop : o.op = .load ty x) (g off : Nat)
    (hx : a.eval x = .pointer (some ⟨g, off, none⟩)) (n : Nat) (ha : AggSize P ty n) (cs : List Value) (t : TypeId) (v : Value) (hg : ∀ w, S w → Own w g cs t)
    (hle : off + n ≤ cs.length) (hv : v = .agg ((cs.drop off).take n).toArray)
    (h : RunS P ops Q S r (a.put o.dst v)) : RunS P ops Q S (i :: r) a :=
  stab_quiet ho hw (fun w' hS => by
    unfold execOp
    simp only [hop, hx, Instr.loadAt, Instr.sureAddr, Sem.run_bind, Sem.run_pure, Result.andThen_ok, run_loadVar_own w' g off t ty cs n (hg w' hS) ha hle]
    rw [← hv]) h

/-- a call of a function that gives one value and keeps S -/
theorem stab_call (ho : ops[i]? = some o) (hw : Region.wanted o (yielded ops a.tmps) = true) (f : FuncId) (xs : List Operand) (ts : Array TypeId) (hop : o.op = .call { callee := .value (.func f), args := xs.toArray, argTypes := ts })
    (vs : List Value) (hvs : xs.map a.eval = vs) (v : Value) (hent : ∀ W, (callFunc f vs.toArray).run P W = .ok (.enter f vs.toArray) W)
    (hc : ∀ W, S W → Calls P f vs.toArray W fun e w' => e = .returned v ∧ S w')
    (h : RunS P ops Q S r (a.put o.dst v)) : RunS P ops Q S (i :: r) a := by
  refine ⟨o, v, ho, .inl ⟨hw, fun w hS => .inr ⟨f, vs.toArray, w, ?_, hc w hS⟩⟩, h⟩
  have hf : a.eval (.func f) = .func (.func f) #[] #[] := rfl
  unfold execOp
  simp only [hop, resolve, List.map_toArray, hvs, hf, Deferred.ofValue, Sem.run_bind, Sem.run_pure, Result.andThen_ok, invoke]
  simpa using hent w
end
end Go.Proofs.Ytdpongijmmdnoaa
