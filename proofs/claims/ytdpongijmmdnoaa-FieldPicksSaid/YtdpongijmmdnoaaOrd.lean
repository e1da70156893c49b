/- A region that draws its order, of which some operations come up when nothing else is left (stores at its end): behind those S need not hold. Over any program. -/
import Derived.Test.YtdpongijmmdnoaaBit
namespace Go.Proofs.Ytdpongijmmdnoaa
open Go.RowKit

section
variable {P : Program} {ops : Array Oper} {Q : Exit → Act → World → Prop} {S : World → Prop} {fin : Nat → Bool}

/-- does j wait for i, over others too? -/
def waits (ops : Array Oper) : Nat → Nat → Nat → Bool
  | 0, _, _ => false
  | n + 1, j, i => ((ops[j]?).map fun o => o.after.any fun e => Region.binds .any e && (e.on == i || waits ops n e.on i)).getD false

/-- what has come up: all that it waited for had come up -/
def Shutd (ops : Array Oper) (listed : Array Bool) : Prop :=
  ∀ k o, listed.getD k false = true → ops[k]? = some o → ∀ e ∈ o.after, Region.binds .any e = true → listed.getD e.on false = true

theorem waits_done {listed : Array Bool} (hc : Shutd ops listed) : ∀ n j i o, ops[j]? = some o → (∀ e ∈ o.after, Region.binds .any e = true → listed.getD e.on false = true) →
    waits ops n j i = true → listed.getD i false = true
  | 0, _, _, _, _, _, h => by simp [waits] at h
  | n + 1, j, i, o, ho, hd, h => by
    simp only [waits, ho, Option.map_some, Option.getD_some] at h
    obtain ⟨e, he, hb⟩ := Array.any_eq_true'.1 h
    simp only [Bool.and_eq_true, Bool.or_eq_true, beq_iff_eq] at hb
    have hl := hd e he hb.1
    rcases hb.2 with h1 | h1
    · rw [← h1]; exact hl
    · cases hk : ops[e.on]? with
      | none => cases n <;> simp [waits, hk] at h1
      | some o' => exact waits_done hc n e.on i o' hk (hc e.on o' hl hk) h1

theorem Shutd.set {listed : Array Bool} (hc : Shutd ops listed) {j : Nat} (hj : j ∈ Region.ready .any ops listed) : Shutd ops (listed.setIfInBounds j true) := by
  intro k o hk ho e he hb
  apply getD_set_true
  obtain ⟨hjn, oj, hoj, hall⟩ := mem_ready.1 hj
  by_cases hkj : k = j
  · subst hkj; rw [ho] at hoj; cases hoj; exact hall e he hb
  · rw [getD_set_ne false (Ne.symm hkj)] at hk; exact hc k o hk ho e he hb

/-- whatever order is picked from here on; S behind each operation that is no last one -/
def AnyX (P : Program) (ops : Array Oper) (Q : Exit → Act → World → Prop) (S : World → Prop) (fin : Nat → Bool) : Nat → Array Bool → Act → World → Prop
  | 0, listed, a, w => Region.ready .any ops listed = [] ∧ Q .normal a w
  | fuel + 1, listed, a, w =>
    (Region.ready .any ops listed = [] → Q .normal a w) ∧
    ∀ i ∈ Region.ready .any ops listed, wpOp P ops Q i (fun a' w' => (fin i = false → S w') ∧ AnyX P ops Q S fin fuel (listed.setIfInBounds i true) a' w') a w

theorem AnyX.any : ∀ (fuel : Nat) (listed : Array Bool) (a : Act) (w : World), AnyX P ops Q S fin fuel listed a w → wpAny P .any ops Q fuel listed a w
  | 0, _, _, _, h => h
  | fuel + 1, _, _, _, h => ⟨h.1, fun i hi => wpOp_mono (fun a' w' h' => AnyX.any fuel _ a' w' h'.2) (h.2 i hi)⟩

theorem AnyX.first {i : Nat} {oi : Oper} {v : Value} (hi : ops[i]? = some oi) (hfi : fin i = false) (hw : ∀ j, fin j = true → waits ops ops.size j i = true)
    (hsel : ∀ (j : Nat) (o : Oper) cs b, ops[j]? = some o → o.op ≠ .select cs b)
    (hQ : ∀ c a w, Q (.panic c) (a.put oi.dst v) w → Q (.panic c) a w) :
    ∀ (fuel : Nat) (listed : Array Bool) (a : Act) (w : World), Shutd ops listed →
      (∀ j oj, ops[j]? = some oj → j ≠ i → listed.getD j true = false → (∀ e ∈ oj.after, Region.binds .any e = true → e.on ≠ i) → oi.apart ops oj = true) →
      i ∈ Region.ready .any ops listed → YieldsIf P ops S oi v a → S w →
      AnyX P ops Q S fin fuel (listed.setIfInBounds i true) (a.put oi.dst v) w → AnyX P ops Q S fin (fuel + 1) listed a w := by
  intro fuel
  induction fuel with
  | zero =>
    intro listed a w _ _ hr hy hS H
    refine ⟨fun h => (by rw [h] at hr; cases hr), fun j hj => ?_⟩
    by_cases hji : j = i
    · subst hji; exact hy.wpOp hi hS ⟨fun _ => hS, H⟩
    · have := ready_mono hj hji
      rw [H.1] at this; cases this
  | succ fuel ih =>
    intro listed a w hc hfree hr hy hS H
    refine ⟨fun h => (by rw [h] at hr; cases hr), fun j hj => ?_⟩
    by_cases hji : j = i
    · subst hji; exact hy.wpOp hi hS ⟨fun _ => hS, H⟩
    · obtain ⟨hjn, oj, hoj, hall⟩ := mem_ready.1 hj
      have hin := (mem_ready.1 hr).1
      have hun : listed.getD i false = false := by
        cases h0 : listed[i]? with
        | none => simp [h0]
        | some b => simp [h0] at hin; simp [h0, hin]
      have hfj : fin j = false := by
        cases hfj : fin j with
        | false => rfl
        | true => have := waits_done hc _ j i oj hoj hall (hw j hfj); rw [hun] at this; cases this
      have hno : ∀ e ∈ oj.after, Region.binds .any e = true → e.on ≠ i := fun e he hb heq => by
        have h1 := hall e he hb
        rw [heq, hun] at h1; cases h1
      have h1 := H.2 j (ready_mono hj hji)
      have h2 := wpOp_putIf hoj (hfree j oj hoj hji hjn hno) (fun cs b => hsel i oi cs b hi) (fun cs b => hsel j oj cs b hoj) hQ hy h1
      refine wpOp_mono (fun a' w' h3 => ⟨fun _ => h3.2.1 hfj, ih (listed.setIfInBounds j true) a' w' (hc.set hj) (fun k ok hk hki hkn hkno => ?_) (ready_mono hr (Ne.symm hji)) h3.1 (h3.2.1 hfj) ?_⟩) h2
      · by_cases hjk : j = k
        · subst hjk; exact hfree j ok hk hki hjn hkno
        · rw [getD_set_ne true hjk] at hkn; exact hfree k ok hk hki hkn hkno
      · rw [Array.setIfInBounds_comm _ _ hji]; exact h3.2.2

/-- the operations in one order: quiet (0), others (1), last ones (2): behind these S need not hold; two others in either order (3, 4) -/
def RunOrdX (P : Program) (ops : Array Oper) (Q : Exit → Act → World → Prop) (S : World → Prop) : List (Nat × Nat) → Act → World → Prop
  | [], a, w => Q .normal a w
  | (i, 0) :: r, a, w => ∃ o v, ops[i]? = some o ∧ YieldsIf P ops S o v a ∧ RunOrdX P ops Q S r (a.put o.dst v) w
  | (i, 1) :: r, a, w => wpOp P ops Q i (fun a' w' => S w' ∧ RunOrdX P ops Q S r a' w') a w
  | (i, 2) :: r, a, w => wpOp P ops Q i (fun a' w' => RunOrdX P ops Q S r a' w') a w
  | (i, 3) :: (j, 4) :: r, a, w => wpOp P ops Q i (fun a' w' => S w' ∧ wpOp P ops Q j (fun a' w' => S w' ∧ RunOrdX P ops Q S r a' w') a' w') a w ∧
      wpOp P ops Q j (fun a' w' => S w' ∧ wpOp P ops Q i (fun a' w' => S w' ∧ RunOrdX P ops Q S r a' w') a' w') a w
  | _ :: _, _, _ => False

def isFin (ord : List (Nat × Nat)) (i : Nat) : Bool := ord.any fun x => x.1 == i && x.2 == 2

def ordOkX (ops : Array Oper) (fin : Nat → Bool) : List (Nat × Nat) → Array Bool → Bool
  | [], listed => (Region.ready .any ops listed).isEmpty
  | (i, 0) :: r, listed => Region.free .any ops listed i && (Region.ready .any ops listed).contains i && !fin i && ((List.range ops.size).all fun j => !fin j || waits ops ops.size j i) && ordOkX ops fin r (listed.setIfInBounds i true)
  | (i, 1) :: r, listed => (Region.ready .any ops listed == [i]) && ordOkX ops fin r (listed.setIfInBounds i true)
  | (i, 2) :: r, listed => (Region.ready .any ops listed == [i]) && fin i && r.all (fun x => x.2 == 2) && ordOkX ops fin r (listed.setIfInBounds i true)
  | (i, 3) :: (j, 4) :: r, listed => (Region.ready .any ops listed == [i, j]) && (Region.ready .any ops (listed.setIfInBounds i true) == [j]) && (Region.ready .any ops (listed.setIfInBounds j true) == [i]) &&
      ordOkX ops fin r ((listed.setIfInBounds i true).setIfInBounds j true)
  | _ :: _, _ => false

theorem runOrdX_sound (hs : Region.noSelect ops = true) (hfs : ∀ j, fin j = true → j < ops.size) (hQ : ∀ c a (d : Option Tmp) v w, Q (.panic c) (a.put d v) w → Q (.panic c) a w) :
    ∀ (n : Nat) (ord : List (Nat × Nat)) (listed : Array Bool) (fuel : Nat) (a : Act) (w : World), ord.length ≤ n → Shutd ops listed → ordOkX ops fin ord listed = true → ord.length ≤ fuel →
      ((∃ x ∈ ord, x.2 = 0) → S w) → RunOrdX P ops Q S ord a w → AnyX P ops Q S fin fuel listed a w := by
  intro n
  induction n with
  | zero =>
    intro ord listed fuel a w hn _ hk _ _ h
    have : ord = [] := List.eq_nil_of_length_eq_zero (by omega)
    subst this
    have hr : Region.ready .any ops listed = [] := by simpa [ordOkX] using hk
    cases fuel with
    | zero => exact ⟨hr, h⟩
    | succ f => exact ⟨fun _ => h, by rw [hr]; simp⟩
  | succ n ih =>
    intro ord listed fuel a w hn hc hk hf hS h
    match ord, hn, hk, hf, hS, h with
    | [], _, hk, _, _, h =>
      have hr : Region.ready .any ops listed = [] := by simpa [ordOkX] using hk
      cases fuel with
      | zero => exact ⟨hr, h⟩
      | succ f => exact ⟨fun _ => h, by rw [hr]; simp⟩
    | (i, 0) :: r, hn, hk, hf, hS, h =>
      obtain ⟨fuel, rfl⟩ : ∃ f, fuel = f + 1 := ⟨fuel - 1, by simp at hf; omega⟩
      have hf' : r.length ≤ fuel := by simp at hf; omega
      have hn' : r.length ≤ n := by simp at hn; omega
      obtain ⟨o, v, ho, hy, h⟩ := h
      simp only [ordOkX, Bool.and_eq_true, Bool.not_eq_true', List.all_eq_true, List.mem_range, Bool.or_eq_true] at hk
      have hw := hS ⟨(i, 0), by simp, rfl⟩
      have hr : i ∈ Region.ready .any ops listed := by simpa using hk.1.1.1.2
      refine AnyX.first ho hk.1.1.2 (fun j hj => ?_) (Region.noSelect_spec hs) (fun c a w => hQ c a _ v w) fuel listed a w hc (Region.free_spec ho hk.1.1.1.1) hr hy hw
        (ih r _ fuel _ w hn' (hc.set hr) hk.2 hf' (fun _ => hw) h)
      rcases hk.1.2 j (hfs j hj) with h1 | h1
      · rw [hj] at h1; cases h1
      · exact h1
    | (i, 1) :: r, hn, hk, hf, hS, h =>
      obtain ⟨fuel, rfl⟩ : ∃ f, fuel = f + 1 := ⟨fuel - 1, by simp at hf; omega⟩
      have hf' : r.length ≤ fuel := by simp at hf; omega
      have hn' : r.length ≤ n := by simp at hn; omega
      simp only [ordOkX, Bool.and_eq_true, beq_iff_eq] at hk
      refine ⟨fun h0 => (by rw [hk.1] at h0; cases h0), ?_⟩
      rw [hk.1]
      intro j hj
      obtain rfl := List.mem_singleton.1 hj
      have hr : j ∈ Region.ready .any ops listed := by rw [hk.1]; simp
      exact wpOp_mono (fun a' w' hh => ⟨fun _ => hh.1, ih r _ fuel a' w' hn' (hc.set hr) hk.2 hf' (fun _ => hh.1) hh.2⟩) h
    | (i, 2) :: r, hn, hk, hf, hS, h =>
      obtain ⟨fuel, rfl⟩ : ∃ f, fuel = f + 1 := ⟨fuel - 1, by simp at hf; omega⟩
      have hf' : r.length ≤ fuel := by simp at hf; omega
      have hn' : r.length ≤ n := by simp at hn; omega
      simp only [ordOkX, Bool.and_eq_true, beq_iff_eq, List.all_eq_true] at hk
      refine ⟨fun h0 => (by rw [hk.1.1.1] at h0; cases h0), ?_⟩
      rw [hk.1.1.1]
      intro j hj
      obtain rfl := List.mem_singleton.1 hj
      have hr : j ∈ Region.ready .any ops listed := by rw [hk.1.1.1]; simp
      refine wpOp_mono (fun a' w' hh => ⟨fun h0 => (by rw [hk.1.1.2] at h0; cases h0), ih r _ fuel a' w' hn' (hc.set hr) hk.2 hf' (fun hx => ?_) hh⟩) h
      obtain ⟨x, hx, h0⟩ := hx
      have := hk.1.2 x hx
      rw [h0] at this; cases this
    | (i, 3) :: (j, 4) :: r, hn, hk, hf, hS, h =>
      obtain ⟨fuel, rfl⟩ : ∃ f, fuel = f + 2 := ⟨fuel - 2, by simp at hf; omega⟩
      have hf' : r.length ≤ fuel := by simp at hf; omega
      have hn' : r.length ≤ n := by simp at hn; omega
      simp only [ordOkX, Bool.and_eq_true, beq_iff_eq] at hk
      obtain ⟨⟨⟨k1, k2⟩, k3⟩, k4⟩ := hk
      have hri : i ∈ Region.ready .any ops listed := by rw [k1]; simp
      have hrj : j ∈ Region.ready .any ops listed := by rw [k1]; simp
      have hri' : i ∈ Region.ready .any ops (listed.setIfInBounds j true) := by rw [k3]; simp
      have hrj' : j ∈ Region.ready .any ops (listed.setIfInBounds i true) := by rw [k2]; simp
      refine ⟨fun h0 => (by rw [k1] at h0; cases h0), ?_⟩
      rw [k1]
      intro x hx
      rcases List.mem_cons.1 hx with rfl | hx
      · refine wpOp_mono (fun a' w' hh => ⟨fun _ => hh.1, ⟨fun h0 => (by rw [k2] at h0; cases h0), ?_⟩⟩) h.1
        rw [k2]
        intro y hy
        obtain rfl := List.mem_singleton.1 hy
        exact wpOp_mono (fun a' w' hh => ⟨fun _ => hh.1, ih r _ fuel a' w' hn' ((hc.set hri).set hrj') k4 hf' (fun _ => hh.1) hh.2⟩) hh.2
      · obtain rfl := List.mem_singleton.1 hx
        refine wpOp_mono (fun a' w' hh => ⟨fun _ => hh.1, ⟨fun h0 => (by rw [k3] at h0; cases h0), ?_⟩⟩) h.2
        rw [k3]
        intro y hy
        obtain rfl := List.mem_singleton.1 hy
        have hne : y ≠ x := fun e => by
          subst e
          have := (mem_ready.1 hri').1
          have hl := (mem_ready.1 hri).1
          rcases Nat.lt_or_ge y listed.size with h' | h'
          · simp [h'] at this
          · simp [Array.getElem?_eq_none h'] at hl
        exact wpOp_mono (fun a' w' hh => ⟨fun _ => hh.1, ih r _ fuel a' w' hn' ((hc.set hrj).set hri') (by rw [Array.setIfInBounds_comm _ _ (Ne.symm hne)]; exact k4) hf' (fun _ => hh.1) hh.2⟩) hh.2

theorem wp_region_ordx (ord : List (Nat × Nat)) (S : World → Prop) {id : Nat} {a : Act} {w : World} (hm : P.follows .mixedOrders = true) (hs : Region.noSelect ops = true)
    (hk : (ordOkX ops (isFin ord) ord (Array.replicate ops.size false) && decide (ord.length ≤ ops.size) && ord.all (fun x => x.2 != 2 || decide (x.1 < ops.size))) = true)
    (hQ : ∀ c a (d : Option Tmp) v w, Q (.panic c) (a.put d v) w → Q (.panic c) a w) (hS : S w.drew)
    (h : RunOrdX P ops Q S ord a w.drew) : (Code.region id ops true).wp P Q a w := by
  simp only [Bool.and_eq_true, decide_eq_true_eq, List.all_eq_true] at hk
  refine wp_region_any hm (AnyX.any _ _ _ _ (runOrdX_sound (S := S) (fin := isFin ord) hs ?_ hQ _ ord _ _ a w.drew (Nat.le_refl _) ?_ hk.1.1 hk.1.2 (fun _ => hS) h))
  · intro j hj
    obtain ⟨x, hx, hb⟩ := List.any_eq_true.1 hj
    simp only [Bool.and_eq_true, beq_iff_eq] at hb
    have := hk.2 x hx
    simp only [hb.2, bne_self_eq_false, Bool.false_or, decide_eq_true_eq] at this
    omega
  · intro k o hl
    by_cases hlt : k < ops.size
    · simp [hlt] at hl
    · simp [hlt] at hl

variable {i : Nat} {r : List (Nat × Nat)} {a : Act} {w : World} {o : Oper}

theorem ordx_nil (h : Q .normal a w) : RunOrdX P ops Q S [] a w := h

theorem ordx_quiet {v : Value} (ho : ops[i]? = some o)
    (hw : Region.wanted o (yielded ops a.tmps) = true) (hy : ∀ w, S w → (execOp a.eval o).run P w = .ok (.value v) w)
    (h : RunOrdX P ops Q S r (a.put o.dst v) w) : RunOrdX P ops Q S ((i, 0) :: r) a w := ⟨o, v, ho, .inl ⟨hw, hy⟩, h⟩

/-- not wanted: passed by -/
theorem ordx_pass (ho : ops[i]? = some o) (hw : Region.wanted o (yielded ops a.tmps) = false)
    (h : RunOrdX P ops Q S r (a.put o.dst undef) w) : RunOrdX P ops Q S ((i, 0) :: r) a w := ⟨o, undef, ho, .inr ⟨hw, rfl⟩, h⟩

theorem ordx_load (ho : ops[i]? = some o)
    (hw : Region.wanted o (yielded ops a.tmps) = true) (ty : TypeId) (x : Operand) (hop : o.op = .load ty x) (g off : Nat)
    (hx : a.eval x = .pointer (some ⟨g, off, none⟩)) (n : Nat) (ha : AggSize P ty n) (cs : List Value) (t : TypeId) (v : Value) (hg : ∀ w, S w → Own w g cs t)
    (hle : off + n ≤ cs.length) (hv : v = .agg ((cs.drop off).take n).toArray)
    (h : RunOrdX P ops Q S r (a.put o.dst v) w) : RunOrdX P ops Q S ((i, 0) :: r) a w :=
  ordx_quiet ho hw (fun w' hS => by
    unfold execOp
    simp only [hop, hx, Instr.loadAt, Instr.sureAddr, Sem.run_bind, Sem.run_pure, Result.andThen_ok, run_loadVar_own w' g off t ty cs n (hg w' hS) ha hle]
    rw [← hv]) h

theorem ordx_load1 (ho : ops[i]? = some o)
    (hw : Region.wanted o (yielded ops a.tmps) = true) (ty : TypeId) (x : Operand) (hop : o.op = .load ty x) (g off : Nat)
    (hx : a.eval x = .pointer (some ⟨g, off, none⟩)) (hn : ∀ w, (isAgg ty).run P w = .ok false w) (cs : List Value) (t : TypeId) (v : Value) (hg : ∀ w, S w → Own w g cs t)
    (hv : cs[off]? = some v)
    (h : RunOrdX P ops Q S r (a.put o.dst v) w) : RunOrdX P ops Q S ((i, 0) :: r) a w :=
  ordx_quiet ho hw (fun w' hS => by
    have := (hg w' hS).cell_of off hv
    unfold execOp
    simp only [hop, hx, Instr.loadAt, Instr.sureAddr, Sem.run_bind, Sem.run_pure, Result.andThen_ok, loadVar, hn, Bool.false_eq_true, if_false, run_load, this]) h

theorem ordx_run (ho : ops[i]? = some o) (hw : Region.wanted o (yielded ops a.tmps) = true)
    (h : ∀ K : Act → World → Prop, Hid (∀ a w, S w → RunOrdX P ops Q S r a w → K a w) → o.wp P a w K Q) : RunOrdX P ops Q S ((i, 1) :: r) a w := by
  show wpOp P ops Q i _ a w
  unfold wpOp
  simp only [ho, hw, if_true]
  exact .inl (h _ (fun a w hS hr => ⟨hS, hr⟩))

theorem ordx_skip (ho : ops[i]? = some o) (hw : Region.wanted o (yielded ops a.tmps) = false) (hS : S w)
    (h : RunOrdX P ops Q S r (a.put o.dst undef) w) : RunOrdX P ops Q S ((i, 1) :: r) a w := by
  show wpOp P ops Q i _ a w
  unfold wpOp
  simp only [ho, hw]
  exact ⟨hS, h⟩

/-- one of the last: run -/
theorem ordx_end (ho : ops[i]? = some o) (hw : Region.wanted o (yielded ops a.tmps) = true)
    (h : ∀ K : Act → World → Prop, Hid (∀ a w, RunOrdX P ops Q S r a w → K a w) → o.wp P a w K Q) : RunOrdX P ops Q S ((i, 2) :: r) a w := by
  show wpOp P ops Q i _ a w
  unfold wpOp
  simp only [ho, hw, if_true]
  exact .inl (h _ (fun a w hr => hr))

theorem ordx_store (ho : ops[i]? = some o)
    (hw : Region.wanted o (yielded ops a.tmps) = true) (ty : TypeId) (x y : Operand) (hop : o.op = .store ty x y) (g off : Nat)
    (hx : a.eval x = .pointer (some ⟨g, off, none⟩)) (vs : List Value) (hv : (a.eval y).cells = vs.toArray) (n : Nat) (hi : SizeIs P ty n) (hn : vs.length = n)
    {w0 : World} {bs : List (Nat × List Value × TypeId)} (st : St w0 w bs) (j : Nat) (cs : List Value) (t : TypeId) (hg : bs[j]? = some (g, cs, t))
    (hle : off + vs.length ≤ cs.length) (h1 : ∀ x ∈ vs, x.oneCell' = true) (cs' : List Value) (hcs : cs' = cs.take off ++ vs ++ cs.drop (off + vs.length))
    (h : ∀ w1, St w0 w1 (bs.set j (g, cs', t)) → RunOrdX P ops Q S r (a.put o.dst undef) w1) :
    RunOrdX P ops Q S ((i, 2) :: r) a w := by
  refine ordx_end ho hw fun K hK => ?_
  unfold Oper.wp execOp
  have hO := st.get j hg
  simp only [hop, hx, Instr.storeAt, Instr.sureAddr, Sem.run_bind, Sem.run_pure, Result.andThen_ok, run_storeVar_own w g off t ty cs _ vs hO hv (hn ▸ hi) hle h1]
  exact hK.out _ _ (h _ (st.wrote j hg ⟨rfl, rfl, rfl, by simp, fun k hk => Go.setRow_other w g k _ hk⟩ (hcs ▸ hO.setRow _)))

theorem ordx_alloc (ho : ops[i]? = some o)
    (hw : Region.wanted o (yielded ops a.tmps) = true) (ty : TypeId) (hop : o.op = .alloc ty) (vs : List Value) (hz : ZeroIs P ty vs)
    {w0 : World} {bs : List (Nat × List Value × TypeId)} (st : St w0 w bs)
    (h : ∀ g w1, St w0 w1 ((g, vs, ty) :: bs) → RunOrdX P ops Q S r (a.put o.dst (.pointer (some ⟨g, 0, none⟩))) w1) :
    RunOrdX P ops Q S ((i, 2) :: r) a w := by
  refine ordx_end ho hw fun K hK => ?_
  obtain ⟨zv, hzc, hz⟩ := hz
  unfold Oper.wp execOp
  simp only [hop, Instr.alloc, Sem.run_bind, hz, Result.andThen_ok, newVar, newRow, hzc]
  exact hK.out _ _ (h _ (w.alloc (.cells vs.toArray ty (0, 0))) (st.newer (newer_alloc w _) (Own.new w vs ty)))

theorem ordx_alloc1 (ho : ops[i]? = some o)
    (hw : Region.wanted o (yielded ops a.tmps) = true) (ty : TypeId) (hop : o.op = .alloc ty) (vs : List Value) (hz : ZeroIs P ty vs)
    {w0 : World} {bs : List (Nat × List Value × TypeId)} (st : St w0 w bs)
    (h : ∀ g w1, St w0 w1 ((g, vs, ty) :: bs) → S w1 ∧ RunOrdX P ops Q S r (a.put o.dst (.pointer (some ⟨g, 0, none⟩))) w1) :
    RunOrdX P ops Q S ((i, 1) :: r) a w := by
  refine ordx_run ho hw fun K hK => ?_
  obtain ⟨zv, hzc, hz⟩ := hz
  unfold Oper.wp execOp
  simp only [hop, Instr.alloc, Sem.run_bind, hz, Result.andThen_ok, newVar, newRow, hzc]
  obtain ⟨h2, h3⟩ := h _ (w.alloc (.cells vs.toArray ty (0, 0))) (st.newer (newer_alloc w _) (Own.new w vs ty))
  exact hK.out _ _ h2 h3


/-- two that may come up in either order -/
theorem ordx_fork {j : Nat} {o' : Oper} (ho : ops[i]? = some o) (hw : Region.wanted o (yielded ops a.tmps) = true)
    (ho' : ops[j]? = some o') (hw' : Region.wanted o' (yielded ops a.tmps) = true)
    (h1 : ∀ K : Act → World → Prop, Hid (∀ a w, S w → RunOrdX P ops Q S ((j, 1) :: r) a w → K a w) → o.wp P a w K Q)
    (h2 : ∀ K : Act → World → Prop, Hid (∀ a w, S w → RunOrdX P ops Q S ((i, 1) :: r) a w → K a w) → o'.wp P a w K Q) :
    RunOrdX P ops Q S ((i, 3) :: (j, 4) :: r) a w := by
  refine ⟨?_, ?_⟩
  · show wpOp P ops Q i _ a w
    unfold wpOp
    simp only [ho, hw, if_true]
    exact .inl (h1 _ (fun a w hS hr => ⟨hS, hr⟩))
  · show wpOp P ops Q j _ a w
    unfold wpOp
    simp only [ho', hw', if_true]
    exact .inl (h2 _ (fun a w hS hr => ⟨hS, hr⟩))

theorem wp_alloc_st {K : Act → World → Prop} (ty : TypeId) (hop : o.op = .alloc ty) (vs : List Value) (hz : ZeroIs P ty vs)
    {w0 : World} {bs : List (Nat × List Value × TypeId)} (st : St w0 w bs)
    (h : ∀ g w1, St w0 w1 ((g, vs, ty) :: bs) → K (a.put o.dst (.pointer (some ⟨g, 0, none⟩))) w1) : o.wp P a w K Q := by
  obtain ⟨zv, hzc, hz⟩ := hz
  unfold Oper.wp execOp
  simp only [hop, Instr.alloc, Sem.run_bind, hz, Result.andThen_ok, newVar, newRow, hzc]
  exact h _ (w.alloc (.cells vs.toArray ty (0, 0))) (st.newer (newer_alloc w _) (Own.new w vs ty))

theorem ordx_build (ho : ops[i]? = some o)
    (hw : Region.wanted o (yielded ops a.tmps) = true) (ty : TypeId) (ps : List (Nat × Operand)) (hop : o.op = .build ty ps.toArray) (pv : List (Nat × Value))
    (hpv : ps.map (fun x => (x.1, a.eval x.2)) = pv) (v : Value) (hb : ∀ W : World, (Instr.build ty pv.toArray).run P W = .ok v W)
    (h : RunOrdX P ops Q S r (a.put o.dst v) w) : RunOrdX P ops Q S ((i, 0) :: r) a w :=
  ordx_quiet ho hw (fun w' _ => by
    unfold execOp
    simp only [hop, List.map_toArray, hpv, Sem.run_bind, hb, Result.andThen_ok, Sem.run_pure]) h

theorem ordx_call_ext (ho : ops[i]? = some o)
    (hw : Region.wanted o (yielded ops a.tmps) = true) (f : FuncId) (xs : List Operand) (ts : Array TypeId) (hop : o.op = .call { callee := .value (.func f), args := xs.toArray, argTypes := ts })
    (vs : List Value) (hvs : xs.map a.eval = vs) (v : Value) (hrun : ∀ W, (callFunc f vs.toArray).run P W = .ok (.value v) W)
    (h : RunOrdX P ops Q S r (a.put o.dst v) w) : RunOrdX P ops Q S ((i, 0) :: r) a w :=
  ordx_quiet ho hw (fun W _ => run_call_ext f xs ts hop rfl vs hvs v W (hrun W)) h

/-- a field of a struct at hand -/
theorem wpList_field {rest : List Oper} (hgd : o.guard = none) (ty : TypeId) (x : Operand) {k : Nat} (ho : o.op = .field ty x k) (u : Value) (hu : a.eval x = u) (v : Value)
    (hf : ∀ W : World, (Instr.field ty u k).run P W = .ok v W) (h : wpList P ops Q rest (a.put o.dst v) w) : wpList P ops Q (o :: rest) a w := by
  refine wpList_plain hgd fun _ hK => ?_
  unfold Oper.wp execOp
  simp only [ho, hu, Sem.run_bind, hf, Result.andThen_ok, Sem.run_pure]
  exact hK _ _ h

theorem exec_field {o : Oper} {a : Act} {ty : TypeId} {x : Operand} {k : Nat} (ho : o.op = .field ty x k) (u : Value) (hu : a.eval x = u) (v : Value) (W : World)
    (hf : (Instr.field ty u k).run P W = .ok v W) : (execOp a.eval o).run P W = .ok (.value v) W := by
  unfold execOp
  simp only [ho, hu, Sem.run_bind, hf, Result.andThen_ok, Sem.run_pure]

theorem run_field {ty : TypeId} {fields : Array Field} {f : Field} {k n off : Nat} {cs : List Value} (hu : P.underlying ty = some (.struct fields)) (hf : fields[k]? = some f) (ha : AggSize P f.type n)
    (hoff : f.offset = off) (v : Value) (hv : v = .agg ((cs.drop off).take n).toArray) (W : World) : (Instr.field ty (AG cs) k).run P W = .ok v W := by
  obtain ⟨d, hd, hd', hi⟩ := ha
  have hagg : (isAgg f.type).run P W = .ok true W := by
    unfold isAgg
    rw [Sem.run_bind, run_underlying hd W]
    cases d <;> simp_all
  have hsz : (sizeOf f.type).run P W = .ok n W := by
    unfold sizeOf
    cases hq : P.info? f.type with
    | none => simp [hq] at hi
    | some i => simp [hq] at hi; simp [typeInfo, Sem.run_bind, hq, hi]
  unfold Instr.field
  simp only [Sem.run_bind, run_underlying hu, Result.andThen_ok, hf, AG, asAgg, Sem.run_pure, part, hagg, if_true, hsz, hoff]
  rw [hv]
  congr 2
  apply Array.ext'
  simp [List.extract_eq_take_drop]

end
end Go.Proofs.Ytdpongijmmdnoaa
