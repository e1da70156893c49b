/- A region that draws its order: calls in a chain, what reads, what makes a block. One order stands for all. Over any program. -/
import Derived.Test.YtdpongijmmdnoaaStab
namespace Go.Proofs.Ytdpongijmmdnoaa
open Go.RowKit

/-- a world to come: what stands in w stands there -/
abbrev Fut (w W : World) : Prop := Below w.heap.size w W
theorem Fut.refl (w : World) : Fut w w := Below.refl _ _
theorem Fut.trans {a b c : World} (h : Fut a b) (k : Fut b c) : Fut a c := Below.trans h (k.mono h.size)
theorem Own.fut {w W : World} {b : Nat} {xs : List Value} {T : TypeId} (h : Own w b xs T) (k : Fut w W) : Own W b xs T := h.below k h.lt

/-- what a new block is told by: its address, or all of it as a slice -/
def madeV : Option Nat → Nat → Value
  | none, g => .pointer (some ⟨g, 0, none⟩)
  | some n, g => .slice (some ⟨g, 0, none⟩) n n
theorem madeV_inj {k k' : Option Nat} {g : Nat} (h : madeV k g = madeV k' g) : k = k' := by
  cases k <;> cases k' <;> simp_all [madeV]

/-- an operation that makes a new block of these cells -/
def Makes (P : Program) (o : Oper) (a : Act) (vs : List Value) (ty : TypeId) (k : Option Nat) : Prop :=
  ∀ W : World, (execOp a.eval o).run P W = .ok (.value (madeV k W.heap.size)) (W.alloc (.cells vs.toArray ty (0, 0)))

theorem Makes.one {P : Program} {o : Oper} {a a' : Act} {vs vs' : List Value} {ty ty' : TypeId} {k k' : Option Nat} (he : execOp a'.eval o = execOp a.eval o)
    (h : Makes P o a vs ty k) (h' : Makes P o a' vs' ty' k') : vs = vs' ∧ ty = ty' ∧ k = k' := by
  have e := h default
  have e' := h' default
  rw [he, e] at e'
  simp only [Result.ok.injEq, Next.value.injEq] at e'
  obtain ⟨e1, e2⟩ := e'
  have hk := madeV_inj e1
  have e3 : (World.alloc default (.cells vs.toArray ty (0, 0))).heap.back? = (World.alloc default (.cells vs'.toArray ty' (0, 0))).heap.back? := by rw [e2]
  have e4 : ∀ o : Obj, (World.alloc default o).heap.back? = some o := fun o => by
    show ((default : World).heap.push o).back? = some o
    simp
  rw [e4, e4] at e3
  simp only [Option.some.injEq, Obj.cells.injEq] at e3
  refine ⟨?_, e3.2.1, hk⟩
  have := congrArg Array.toList e3.1
  simpa using this

section
variable {P : Program} {ops : Array Oper} {Q : Exit → Act → World → Prop} {B : Nat} {fin al : Nat → Bool}

/-- ready to make a block -/
def Armed (P : Program) (ops : Array Oper) (k : Nat) (a : Act) : Prop :=
  ∃ o vs ty kd, ops[k]? = some o ∧ Region.wanted o (yielded ops a.tmps) = true ∧ Makes P o a vs ty kd

/-- whatever order is picked from here on, from whatever world to come -/
def AnyK (P : Program) (ops : Array Oper) (Q : Exit → Act → World → Prop) (B : Nat) (fin al : Nat → Bool) : Nat → Array Bool → List Nat → Act → World → Prop
  | 0, listed, _, a, w => Region.ready .any ops listed = [] ∧ ∀ W, Fut w W → Q .normal a W
  | fuel + 1, listed, tk, a, w =>
    (Region.ready .any ops listed = [] → ∀ W, Fut w W → Q .normal a W) ∧
    ∀ i ∈ Region.ready .any ops listed, ∀ W, Fut w W →
      (al i = true → ∃ o vs ty kd, ops[i]? = some o ∧ Region.wanted o (yielded ops a.tmps) = true ∧ Makes P o a vs ty kd ∧
        ∀ g, B ≤ g → g ∉ tk → Own W g vs ty → AnyK P ops Q B fin al fuel (listed.setIfInBounds i true) (g :: tk) (a.put o.dst (madeV kd g)) W) ∧
      (al i = false → wpOp P ops Q i (fun a' w' => (fin i = false → Fut W w') ∧ W.heap.size ≤ w'.heap.size ∧
        ∃ tk', (∀ x ∈ tk', W.heap.size ≤ x ∧ x < w'.heap.size) ∧ AnyK P ops Q B fin al fuel (listed.setIfInBounds i true) (tk' ++ tk) a' w') a W)

theorem AnyK.fut {fuel : Nat} {listed : Array Bool} {tk : List Nat} {a : Act} {w W : World} (h : AnyK P ops Q B fin al fuel listed tk a w) (k : Fut w W) : AnyK P ops Q B fin al fuel listed tk a W := by
  cases fuel with
  | zero => exact ⟨h.1, fun V hV => h.2 V (k.trans hV)⟩
  | succ n => exact ⟨fun hr V hV => h.1 hr V (k.trans hV), fun i hi V hV => h.2 i hi V (k.trans hV)⟩

theorem AnyK.more : ∀ {fuel : Nat} {listed : Array Bool} {tk tk' : List Nat} {a : Act} {w : World}, AnyK P ops Q B fin al fuel listed tk a w → (∀ x ∈ tk, x ∈ tk') → AnyK P ops Q B fin al fuel listed tk' a w
  | 0, _, _, _, _, _, h, _ => h
  | n + 1, listed, tk, tk', a, w, h, hs => ⟨h.1, fun i hi W hW => ⟨fun ha => by
      obtain ⟨o, vs, ty, kd, ho, hw, hm, hg⟩ := (h.2 i hi W hW).1 ha
      exact ⟨o, vs, ty, kd, ho, hw, hm, fun g hB hn hO => (hg g hB (fun hx => hn (hs g hx)) hO).more (by
        intro x hx
        rcases List.mem_cons.1 hx with rfl | hx
        · exact List.mem_cons_self
        · exact List.mem_cons_of_mem _ (hs x hx))⟩, fun ha => wpOp_mono (fun a' w' ⟨h1, h2, t, h3, h4⟩ => ⟨h1, h2, t, h3, h4.more (by
        intro x hx
        rcases List.mem_append.1 hx with hx | hx
        · exact List.mem_append_left _ hx
        · exact List.mem_append_right _ (hs x hx))⟩) ((h.2 i hi W hW).2 ha)⟩⟩

theorem AnyK.any : ∀ (fuel : Nat) (listed : Array Bool) (tk : List Nat) (a : Act) (w : World), B ≤ w.heap.size → (∀ x ∈ tk, x < w.heap.size) → AnyK P ops Q B fin al fuel listed tk a w → wpAny P .any ops Q fuel listed a w
  | 0, _, _, _, w, _, _, h => ⟨h.1, h.2 w (Fut.refl w)⟩
  | fuel + 1, listed, tk, a, w, hB, ht, h => by
    refine ⟨fun hr => h.1 hr w (Fut.refl w), fun i hi => ?_⟩
    cases ha : al i with
    | false =>
      refine wpOp_mono (fun a' w' ⟨_, h2, t, h3, h4⟩ => AnyK.any fuel _ _ a' w' (by omega) (fun x hx => ?_) h4) ((h.2 i hi w (Fut.refl w)).2 ha)
      rcases List.mem_append.1 hx with hx | hx
      · exact (h3 x hx).2
      · have := ht x hx; omega
    | true =>
      obtain ⟨o, vs, ty, kd, ho, hw, hm, _⟩ := (h.2 i hi w (Fut.refl w)).1 ha
      have hF : Fut w (w.alloc (.cells vs.toArray ty (0, 0))) := (Below.refl _ _).alloc (Nat.le_refl _) _
      obtain ⟨o', vs', ty', kd', ho', hw', hm', hg⟩ := (h.2 i hi _ hF).1 ha
      rw [ho] at ho'; cases ho'
      obtain ⟨rfl, rfl, rfl⟩ := hm.one rfl hm'
      have h5 := hg w.heap.size hB (fun hx => by have := ht _ hx; omega) (Own.new w vs ty)
      unfold Go.wpOp
      simp only [ho, hw, if_true, Oper.wp, hm w, Oper.upon]
      refine .inl (AnyK.any fuel _ _ _ _ ?_ ?_ h5)
      · have := hF.size; omega
      · intro x hx
        have hs : (w.alloc (.cells vs.toArray ty (0, 0))).heap.size = w.heap.size + 1 := by simp
        rcases List.mem_cons.1 hx with rfl | hx
        · omega
        · have := ht x hx; omega

/-- an operation before another one that waits for nothing of it -/
theorem wpOp_rev {j : Nat} {oj : Oper} (hj : ops[j]? = some oj) {dst : Option Tmp} {v : Value} (h1 : ∀ d, dst = some d → d ∉ oj.looksAt ops) (h2 : ∀ d, dst = some d → oj.dst ≠ some d)
    (hs : ∀ cs b, oj.op ≠ .select cs b) (hQ : ∀ c a w, Q (.panic c) a w → Q (.panic c) (a.put dst v) w) {K : Act → World → Prop} {a : Act} {w : World} (h : wpOp P ops Q j K a w) :
    wpOp P ops Q j (fun b w' => ∃ a', b = a'.put dst v ∧ K a' w' ∧ ∃ u ds, a' = { a.put oj.dst u with defers := ds }) (a.put dst v) w := by
  replace h := wpOp_shape hj h
  unfold Go.wpOp at *
  simp only [hj] at *
  rw [wanted_put oj a dst v h1]
  split
  · rename_i hw
    simp only [hw, if_true] at h
    rcases h with h | ⟨hasks, hlets⟩
    case inr => exact .inr ⟨by unfold Oper.asks at *; rw [execOp_put oj hs a dst v h1]; exact hasks, hlets⟩
    refine .inl ?_
    unfold Oper.wp at *
    rw [execOp_put oj hs a dst v h1]
    generalize (execOp a.eval oj).run P w = r at *
    cases r with
    | ok n w' =>
      cases n <;> simp only [Oper.upon] at h ⊢
      case value u => exact ⟨_, (Act.put_comm a v u h2), h.1, h.2⟩
      case skip => exact ⟨_, (Act.put_comm a v _ h2), h.1, h.2⟩
      case defer d =>
        exact ⟨_, (congrArg (fun x : Act => x.put oj.dst undef) (Act.put_defers a dst v d)).trans (Act.put_comm _ v undef h2), h.1, h.2⟩
      case enter f args =>
        refine Calls.mono h fun e w'' he => ?_
        cases e with
        | returned u => exact ⟨_, (Act.put_comm a v u h2), he.1, he.2⟩
        | panicked c => exact hQ _ _ _ he
        | outgrown => exact he
      case row row args => exact Rows.mono h fun u w'' he => ⟨_, (Act.put_comm a v u h2), he.1, he.2⟩
    | halt x w' =>
      cases x <;> simp only [Oper.upon] at h ⊢
      case panic u => exact hQ _ _ _ h
  · rename_i hw
    simp only [hw] at h
    exact ⟨_, (Act.put_comm a v _ h2), h.1, h.2⟩

theorem keepK {ok oj : Oper} (hs : ∀ cs b, ok.op ≠ .select cs b) {a a' : Act} (h3 : ∀ d, oj.dst = some d → d ∉ ok.looksAt ops) (h : ∃ u ds, a' = { a.put oj.dst u with defers := ds }) :
    execOp a'.eval ok = execOp a.eval ok ∧ Region.wanted ok (yielded ops a'.tmps) = Region.wanted ok (yielded ops a.tmps) := by
  obtain ⟨u, ds, rfl⟩ := h
  exact ⟨execOp_put ok hs a oj.dst u h3, wanted_put ok a oj.dst u h3⟩

theorem unready {listed : Array Bool} {i : Nat} (h : i ∈ Region.ready .any ops listed) : listed.getD i false = false := by
  have hin := (mem_ready.1 h).1
  cases h0 : listed[i]? with
  | none => simp [h0]
  | some b => simp [h0] at hin; simp [h0, hin]

/-- what reads comes first -/
theorem AnyK.first {i : Nat} {oi : Oper} {v : Value} (hi : ops[i]? = some oi) (hfi : fin i = false) (hai : al i = false) (hw : ∀ j, fin j = true → waits ops ops.size j i = true)
    (hsel : ∀ (j : Nat) (o : Oper) cs b, ops[j]? = some o → o.op ≠ .select cs b)
    (hQ : ∀ c a w, Q (.panic c) (a.put oi.dst v) w → Q (.panic c) a w) :
    ∀ (fuel : Nat) (listed : Array Bool) (tk : List Nat) (a : Act) (w : World), Shutd ops listed →
      (∀ j oj, ops[j]? = some oj → j ≠ i → listed.getD j true = false → (∀ e ∈ oj.after, Region.binds .any e = true → e.on ≠ i) → oi.apart ops oj = true) →
      i ∈ Region.ready .any ops listed → YieldsIf P ops (Fut w) oi v a →
      AnyK P ops Q B fin al fuel (listed.setIfInBounds i true) tk (a.put oi.dst v) w → AnyK P ops Q B fin al (fuel + 1) listed tk a w := by
  intro fuel
  induction fuel with
  | zero =>
    intro listed tk a w _ _ hr hy H
    refine ⟨fun h => (by rw [h] at hr; cases hr), fun j hj W hW => ?_⟩
    by_cases hji : j = i
    · subst hji
      exact ⟨fun h => (by rw [hai] at h; cases h), fun _ => hy.wpOp hi hW ⟨fun _ => Fut.refl W, Nat.le_refl _, [], by simp, H.fut hW⟩⟩
    · have := ready_mono hj hji
      rw [H.1] at this; cases this
  | succ fuel ih =>
    intro listed tk a w hc hfree hr hy H
    refine ⟨fun h => (by rw [h] at hr; cases hr), fun j hj W hW => ?_⟩
    by_cases hji : j = i
    · subst hji
      exact ⟨fun h => (by rw [hai] at h; cases h), fun _ => hy.wpOp hi hW ⟨fun _ => Fut.refl W, Nat.le_refl _, [], by simp, H.fut hW⟩⟩
    · obtain ⟨hjn, oj, hoj, hall⟩ := mem_ready.1 hj
      have hun := unready hr
      have hfj : fin j = false := by
        cases hfj : fin j with
        | false => rfl
        | true => have := waits_done hc _ j i oj hoj hall (hw j hfj); rw [hun] at this; cases this
      have hno : ∀ e ∈ oj.after, Region.binds .any e = true → e.on ≠ i := fun e he hb heq => by
        have h1 := hall e he hb
        rw [heq, hun] at h1; cases h1
      have hap := hfree j oj hoj hji hjn hno
      obtain ⟨q1, q2, q3⟩ := Oper.apart_spec hap
      have hfree' : ∀ k ok, ops[k]? = some ok → k ≠ i → (listed.setIfInBounds j true).getD k true = false → (∀ e ∈ ok.after, Region.binds .any e = true → e.on ≠ i) → oi.apart ops ok = true := fun k ok hk hki hkn hkno => by
        by_cases hjk : j = k
        · subst hjk; exact hfree j ok hk hki hjn hkno
        · rw [getD_set_ne true hjk] at hkn; exact hfree k ok hk hki hkn hkno
      have h0 := H.2 j (ready_mono hj hji) W hW
      refine ⟨fun ha => ?_, fun ha => ?_⟩
      · obtain ⟨o, vs, ty, kd, ho, hwt, hm, hg⟩ := h0.1 ha
        rw [hoj] at ho; cases ho
        have e1 : execOp (a.put oi.dst v).eval oj = execOp a.eval oj := execOp_put oj (fun cs b => hsel j oj cs b hoj) a oi.dst v q1
        refine ⟨oj, vs, ty, kd, hoj, by rw [← wanted_put oj a oi.dst v q1]; exact hwt, fun V => by rw [← e1]; exact hm V, fun g hB hn hO => ?_⟩
        refine ih (listed.setIfInBounds j true) (g :: tk) _ W (hc.set hj) hfree' (ready_mono hr (Ne.symm hji)) ?_ ?_
        · have hyk := hy.of_same (execOp_put oi (fun cs b => hsel i oi cs b hi) a oj.dst (madeV kd g) q3) (wanted_put oi a oj.dst (madeV kd g) q3)
          exact hyk.imp (fun h => ⟨h.1, fun V hV => h.2 V (hW.trans hV)⟩) id
        · rw [Array.setIfInBounds_comm _ _ hji, ← Act.put_comm a v _ q2]; exact hg g hB hn hO
      · have h1 := h0.2 ha
        have h2 := wpOp_putIf hoj hap (fun cs b => hsel i oi cs b hi) (fun cs b => hsel j oj cs b hoj) hQ hy h1
        refine wpOp_mono (fun a' w' ⟨hy', hF, hsz, t, ht, hA⟩ => ⟨hF, hsz, t, ht, ?_⟩) h2
        refine ih (listed.setIfInBounds j true) (t ++ tk) a' w' (hc.set hj) hfree' (ready_mono hr (Ne.symm hji)) (hy'.imp (fun h => ⟨h.1, fun V hV => h.2 V ((hW.trans (hF hfj)).trans hV)⟩) id) ?_
        rw [Array.setIfInBounds_comm _ _ hji]; exact hA

/-- does nothing that hangs on a block that is yet to be made come up before j? -/
def lone (ops : Array Oper) (al : Nat → Bool) (j : Nat) : Bool :=
  (List.range ops.size).all fun m => ((ops[m]?).map fun o => o.after.all fun e => !(Region.binds .any e && al e.on && e.on != j) || waits ops ops.size m j).getD true

theorem lone_spec {j : Nat} (h : lone ops al j = true) {m : Nat} {o : Oper} (ho : ops[m]? = some o) {e : Edge} (he : e ∈ o.after) (hb : Region.binds .any e = true) (ha : al e.on = true) (hne : e.on ≠ j) :
    waits ops ops.size m j = true := by
  unfold lone at h
  rw [List.all_eq_true] at h
  have hm : m < ops.size := (Array.getElem?_eq_some_iff.1 ho).1
  have := h m (by simpa using hm)
  simp only [ho, Option.map_some, Option.getD_some, Array.all_eq_true_iff_forall_mem] at this
  have := this e he
  simp only [hb, ha, Bool.true_and, Bool.or_eq_true, Bool.not_eq_true', bne_eq_false_iff_eq] at this
  exact this.resolve_left hne

/-- what comes up once a block is made came up before, unless it waits for j -/
theorem ready_made {listed : Array Bool} (hc : Shutd ops listed) {j k : Nat} (hl : lone ops al j = true) (hj : j ∈ Region.ready .any ops listed) (hk : k ∈ Region.ready .any ops listed) (hak : al k = true) (hne : k ≠ j)
    {m : Nat} (hm : m ∈ Region.ready .any ops (listed.setIfInBounds k true)) : m ∈ Region.ready .any ops listed ∧ m ≠ k := by
  obtain ⟨hmn, om, hom, hall⟩ := mem_ready.1 hm
  have hmk : m ≠ k := by
    intro e; subst e
    have hlt : m < listed.size := by
      rcases Nat.lt_or_ge m listed.size with h' | h'
      · exact h'
      · have := (mem_ready.1 hk).1; simp [Array.getElem?_eq_none h'] at this
    simp [hlt] at hmn
  refine ⟨mem_ready.2 ⟨by rw [getD_set_ne true (Ne.symm hmk)] at hmn; exact hmn, om, hom, fun e he hb => ?_⟩, hmk⟩
  by_cases hek : e.on = k
  · have h1 := waits_done (hc.set hk) _ m j om hom hall (lone_spec hl hom he hb (by rw [hek]; exact hak) (by rw [hek]; exact hne))
    rw [getD_set_ne false hne] at h1
    rw [unready hj] at h1; cases h1
  · have := hall e he hb
    rwa [getD_set_ne false (Ne.symm hek)] at this

theorem Armed.keep {k : Nat} {a a' : Act} (h : Armed P ops k a) (hk : ∀ o, ops[k]? = some o → execOp a'.eval o = execOp a.eval o ∧ Region.wanted o (yielded ops a'.tmps) = Region.wanted o (yielded ops a.tmps)) : Armed P ops k a' := by
  obtain ⟨o, vs, ty, kd, ho, hw, hm⟩ := h
  obtain ⟨e1, e2⟩ := hk o ho
  exact ⟨o, vs, ty, kd, ho, by rw [e2]; exact hw, fun W => by rw [e1]; exact hm W⟩

theorem count_less (p : Nat → Bool) (k : Nat) : ∀ l : List Nat, k ∈ l → p k = true → l.countP (fun i => p i && i != k) + 1 ≤ l.countP p
  | [], h, _ => by cases h
  | x :: l, h, hp => by
    have mono : l.countP (fun i => p i && i != k) ≤ l.countP p := List.countP_mono_left (fun i _ h => by simp at h; exact h.1)
    rw [List.countP_cons, List.countP_cons]
    by_cases hx : x = k
    · subst hx; simp [hp]; omega
    · have := count_less p k l ((List.mem_cons.1 h).resolve_left (Ne.symm hx)) hp
      simp [hx]; omega

/-- how many have yet to come up -/
def left (ops : Array Oper) (listed : Array Bool) : Nat := (List.range ops.size).countP fun i => !listed.getD i true
theorem left_set {listed : Array Bool} {k : Nat} (hk : k ∈ Region.ready .any ops listed) : left ops (listed.setIfInBounds k true) + 1 ≤ left ops listed := by
  obtain ⟨hn, o, ho, _⟩ := mem_ready.1 hk
  have hlt : k < ops.size := (Array.getElem?_eq_some_iff.1 ho).1
  have h := count_less (fun i => !listed.getD i true) k (List.range ops.size) (by simpa using hlt) (by rw [hn]; rfl)
  have hl : k < listed.size := by
    rcases Nat.lt_or_ge k listed.size with h' | h'
    · exact h'
    · simp [Array.getElem?_eq_none h'] at hn
  have e : (fun i => !(listed.setIfInBounds k true).getD i true) = (fun i => (!listed.getD i true) && i != k) := by
    funext i
    by_cases hik : i = k
    · subst hik; simp [hl]
    · rw [getD_set_ne true (Ne.symm hik)]; simp [hik]
  unfold left
  rw [e]; exact h
theorem left_pos {listed : Array Bool} {k : Nat} (hk : k ∈ Region.ready .any ops listed) : 1 ≤ left ops listed := by have := left_set hk; omega

/-- a call, or what makes a block, comes first, if all else that is ready makes blocks -/
theorem AnyK.next {j : Nat} {oj : Oper} (hj : ops[j]? = some oj) (hfj : fin j = false) (hl : lone ops al j = true)
    (hsel : ∀ (j : Nat) (o : Oper) cs b, ops[j]? = some o → o.op ≠ .select cs b)
    (hal : ∀ k m ok om, al k = true → al m = true → k ≠ m → ops[k]? = some ok → ops[m]? = some om → ∀ d, ok.dst = some d → d ∉ om.looksAt ops)
    (hQ : ∀ c a (d : Option Tmp) v w, Q (.panic c) a w → Q (.panic c) (a.put d v) w) :
    ∀ (fuel : Nat) (listed : Array Bool) (tk : List Nat) (a : Act) (w : World), Shutd ops listed → left ops listed ≤ fuel + 1 →
      (∀ k ok, ops[k]? = some ok → k ≠ j → listed.getD k true = false → (∀ e ∈ ok.after, Region.binds .any e = true → e.on ≠ j) → oj.apart ops ok = true) →
      j ∈ Region.ready .any ops listed → (∀ k ∈ Region.ready .any ops listed, k ≠ j → al k = true ∧ Armed P ops k a) →
      (al j = true → Armed P ops j a) →
      (∀ W, Fut w W →
        (al j = true → ∀ o vs ty kd, ops[j]? = some o → Region.wanted o (yielded ops a.tmps) = true → Makes P o a vs ty kd →
          ∀ g, B ≤ g → g ∉ tk → Own W g vs ty → AnyK P ops Q B fin al fuel (listed.setIfInBounds j true) (g :: tk) (a.put o.dst (madeV kd g)) W) ∧
        (al j = false → wpOp P ops Q j (fun a' w' => Fut W w' ∧
          ∃ tk', (∀ x ∈ tk', W.heap.size ≤ x ∧ x < w'.heap.size) ∧ AnyK P ops Q B fin al fuel (listed.setIfInBounds j true) (tk' ++ tk) a' w') a W)) →
      AnyK P ops Q B fin al (fuel + 1) listed tk a w := by
  intro fuel
  induction fuel with
  | zero =>
    intro listed tk a w hc hlf hfree hr harm hjm H
    refine ⟨fun h => (by rw [h] at hr; cases hr), fun k hk W hW => ?_⟩
    by_cases hkj : k = j
    · subst hkj
      refine ⟨fun ha => ?_, fun ha => wpOp_mono (fun a' w' ⟨h1, h2⟩ => ⟨fun _ => h1, h1.size, h2⟩) ((H W hW).2 ha)⟩
      obtain ⟨o, vs, ty, kd, ho, hw, hm⟩ := hjm ha
      exact ⟨o, vs, ty, kd, ho, hw, hm, (H W hW).1 ha o vs ty kd ho hw hm⟩
    · have h1 := left_set hk
      have h2 := left_pos (ready_mono hr (Ne.symm hkj))
      omega
  | succ fuel ih =>
    intro listed tk a w hc hlf hfree hr harm hjm H
    refine ⟨fun h => (by rw [h] at hr; cases hr), fun k hk W hW => ?_⟩
    by_cases hkj : k = j
    · subst hkj
      refine ⟨fun ha => ?_, fun ha => wpOp_mono (fun a' w' ⟨h1, h2⟩ => ⟨fun _ => h1, h1.size, h2⟩) ((H W hW).2 ha)⟩
      obtain ⟨o, vs, ty, kd, ho, hw, hm⟩ := hjm ha
      exact ⟨o, vs, ty, kd, ho, hw, hm, (H W hW).1 ha o vs ty kd ho hw hm⟩
    · obtain ⟨hak, o, vs, ty, kd, ho, hw, hm⟩ := harm k hk hkj
      refine ⟨fun _ => ⟨o, vs, ty, kd, ho, hw, hm, fun g hg hn hO => ?_⟩, fun h => (by rw [hak] at h; cases h)⟩
      have hkr : k ∈ Region.ready .any ops (listed.setIfInBounds j true) := ready_mono hk hkj
      have hjr : j ∈ Region.ready .any ops (listed.setIfInBounds k true) := ready_mono hr (Ne.symm hkj)
      have hap : oj.apart ops o = true := hfree k o ho hkj (mem_ready.1 hk).1 (fun e he hb heq => by
        obtain ⟨_, o', ho', hall⟩ := mem_ready.1 hk
        rw [ho] at ho'; cases ho'
        have h1 := hall e he hb
        rw [heq, unready hr] at h1; cases h1)
      obtain ⟨q1, q2, q3⟩ := Oper.apart_spec hap
      have q2' : ∀ d, o.dst = some d → oj.dst ≠ some d := fun d hd hj' => q2 d hj' hd
      have selO : ∀ cs b, o.op ≠ .select cs b := fun cs b => hsel k o cs b ho
      have selJ : ∀ cs b, oj.op ≠ .select cs b := fun cs b => hsel j oj cs b hj
      have e1 : execOp (a.put o.dst (madeV kd g)).eval oj = execOp a.eval oj := execOp_put oj selJ a o.dst _ q3
      have w1 : Region.wanted oj (yielded ops (a.put o.dst (madeV kd g)).tmps) = Region.wanted oj (yielded ops a.tmps) := wanted_put oj a o.dst _ q3
      refine ih (listed.setIfInBounds k true) (g :: tk) _ W (hc.set hk) (by have := left_set hk; omega) ?_ hjr ?_ ?_ ?_
      · intro m om hom hmj hmn hmno
        have hmk : k ≠ m := by
          intro e; subst e
          have hlt : k < listed.size := by
            rcases Nat.lt_or_ge k listed.size with h' | h'
            · exact h'
            · have := (mem_ready.1 hk).1; simp [Array.getElem?_eq_none h'] at this
          simp [hlt] at hmn
        rw [getD_set_ne true hmk] at hmn
        exact hfree m om hom hmj hmn hmno
      · intro m hm hmj
        obtain ⟨hm', hmk⟩ := ready_made hc hl hr hk hak hkj hm
        obtain ⟨ham, har⟩ := harm m hm' hmj
        refine ⟨ham, har.keep fun om hom => ?_⟩
        have hd := hal k m o om hak ham (Ne.symm hmk) ho hom
        exact ⟨execOp_put om (fun cs b => hsel m om cs b hom) a o.dst _ hd, wanted_put om a o.dst _ hd⟩
      · intro ha
        exact (hjm ha).keep fun oj' hoj' => by rw [hj] at hoj'; cases hoj'; exact ⟨e1, w1⟩
      · intro V hV
        obtain ⟨H1, H2⟩ := H V (hW.trans hV)
        refine ⟨fun ha oj' vs' ty' kd' hoj' hw' hm' g' hg' hn' hO' => ?_, fun ha => ?_⟩
        · rw [hj] at hoj'; cases hoj'
          have h5 := H1 ha oj vs' ty' kd' hj (by rw [← w1]; exact hw') (fun U => by rw [← e1]; exact hm' U) g' hg' (fun hx => hn' (List.mem_cons_of_mem _ hx)) hO'
          obtain ⟨o2, vs2, ty2, kd2, ho2, hw2, hm2, hg2⟩ := (h5.2 k hkr V (Fut.refl V)).1 hak
          rw [ho] at ho2; cases ho2
          have e2 : execOp (a.put oj.dst (madeV kd' g')).eval o = execOp a.eval o := execOp_put o selO a oj.dst _ q1
          obtain ⟨rfl, rfl, rfl⟩ := hm.one e2 hm2
          have h6 := hg2 g hg (fun hx => by
            rcases List.mem_cons.1 hx with rfl | hx
            · exact hn' List.mem_cons_self
            · exact hn hx) (hO.fut hV)
          rw [Array.setIfInBounds_comm _ _ hkj, Act.put_comm a _ _ q2']
          exact h6.more (by
            intro x hx
            rcases List.mem_cons.1 hx with rfl | hx
            · exact List.mem_cons_of_mem _ List.mem_cons_self
            · rcases List.mem_cons.1 hx with rfl | hx
              · exact List.mem_cons_self
              · exact List.mem_cons_of_mem _ (List.mem_cons_of_mem _ hx))
        · have h5 := wpOp_rev hj q3 q2' selJ (fun c a w => hQ c a o.dst (madeV kd g) w) (H2 ha)
          refine wpOp_mono (fun b w' hb => ?_) h5
          obtain ⟨a', rfl, ⟨hF, t, ht, hA⟩, hsh⟩ := hb
          refine ⟨hF, t, ht, ?_⟩
          obtain ⟨o2, vs2, ty2, kd2, ho2, hw2, hm2, hg2⟩ := (hA.2 k hkr w' (Fut.refl w')).1 hak
          rw [ho] at ho2; cases ho2
          obtain ⟨e2, _⟩ := keepK (ops := ops) selO q1 hsh
          obtain ⟨rfl, rfl, rfl⟩ := hm.one e2 hm2
          have h6 := hg2 g hg (fun hx => by
            rcases List.mem_append.1 hx with hx | hx
            · have := (ht g hx).1; have := (hO.fut hV).lt; omega
            · exact hn hx) ((hO.fut hV).fut hF)
          rw [Array.setIfInBounds_comm _ _ hkj]
          exact h6.more (by
            intro x hx
            rcases List.mem_cons.1 hx with rfl | hx
            · exact List.mem_append_right _ List.mem_cons_self
            · rcases List.mem_append.1 hx with hx | hx
              · exact List.mem_append_left _ hx
              · exact List.mem_append_right _ (List.mem_cons_of_mem _ hx))

/-- one operation of an order: what reads; a call; what makes a block (beside it: what is ready to make one); a last one -/
inductive Ko where
  | quiet (i : Nat)
  | call (i : Nat) (pend : List Nat)
  | make (i : Nat) (pend : List Nat)
  | last (i : Nat)

/-- the operations in one order -/
def RunK (P : Program) (ops : Array Oper) (Q : Exit → Act → World → Prop) (B : Nat) : List Ko → List Nat → Act → World → Prop
  | [], _, a, w => ∀ W, Fut w W → Q .normal a W
  | .quiet i :: r, tk, a, w => ∃ o v, ops[i]? = some o ∧ YieldsIf P ops (Fut w) o v a ∧ RunK P ops Q B r tk (a.put o.dst v) w
  | .call i pend :: r, tk, a, w => (∀ k ∈ pend, Armed P ops k a) ∧ ∀ W, Fut w W → wpOp P ops Q i (fun a' w' => Fut W w' ∧
      ∃ tk', (∀ x ∈ tk', W.heap.size ≤ x ∧ x < w'.heap.size) ∧ RunK P ops Q B r (tk' ++ tk) a' w') a W
  | .make i pend :: r, tk, a, w => (∀ k ∈ pend, Armed P ops k a) ∧ ∃ o vs ty kd, ops[i]? = some o ∧ Region.wanted o (yielded ops a.tmps) = true ∧ Makes P o a vs ty kd ∧
      ∀ W, Fut w W → ∀ g, B ≤ g → g ∉ tk → Own W g vs ty → RunK P ops Q B r (g :: tk) (a.put o.dst (madeV kd g)) W
  | .last i :: r, tk, a, w => ∀ W, Fut w W → wpOp P ops Q i (fun a' w' => W.heap.size ≤ w'.heap.size ∧ RunK P ops Q B r tk a' w') a W

def Ko.isLast : Ko → Bool
  | .last _ => true
  | _ => false
def Ko.fins (ord : List Ko) (i : Nat) : Bool := ord.any fun | .last j => j == i | _ => false
def Ko.mks (ord : List Ko) (i : Nat) : Bool := ord.any fun | .make j _ => j == i | _ => false

def ordOkK (ops : Array Oper) (fin al : Nat → Bool) : List Ko → Array Bool → Bool
  | [], listed => (Region.ready .any ops listed).isEmpty
  | .quiet i :: r, listed => Region.free .any ops listed i && (Region.ready .any ops listed).contains i && !fin i && !al i &&
      ((List.range ops.size).all fun j => !fin j || waits ops ops.size j i) && ordOkK ops fin al r (listed.setIfInBounds i true)
  | .call i pend :: r, listed => Region.free .any ops listed i && (Region.ready .any ops listed).contains i && !fin i && !al i && lone ops al i &&
      ((Region.ready .any ops listed).all fun k => k == i || pend.contains k) && (pend.all al) && ordOkK ops fin al r (listed.setIfInBounds i true)
  | .make i pend :: r, listed => Region.free .any ops listed i && (Region.ready .any ops listed).contains i && !fin i && al i && lone ops al i &&
      ((Region.ready .any ops listed).all fun k => k == i || pend.contains k) && (pend.all al) && ordOkK ops fin al r (listed.setIfInBounds i true)
  | .last i :: r, listed => (Region.ready .any ops listed == [i]) && fin i && !al i && r.all Ko.isLast && ordOkK ops fin al r (listed.setIfInBounds i true)

/-- no two that make blocks look at one another -/
def alApart (ops : Array Oper) (al : Nat → Bool) : Bool :=
  (List.range ops.size).all fun k => !al k || (List.range ops.size).all fun m => !al m || k == m || (match ops[k]?, ops[m]? with
    | some ok, some om => (match ok.dst with | some d => !(om.looksAt ops).contains d | none => true)
    | _, _ => true)
theorem alApart_spec (h : alApart ops al = true) (k m : Nat) (ok om : Oper) (hk : al k = true) (hm : al m = true) (hne : k ≠ m) (ho : ops[k]? = some ok) (ho' : ops[m]? = some om) (d : Tmp) (hd : ok.dst = some d) : d ∉ om.looksAt ops := by
  unfold alApart at h
  simp only [List.all_eq_true, List.mem_range, Bool.or_eq_true, Bool.not_eq_true', beq_iff_eq] at h
  have lk : k < ops.size := (Array.getElem?_eq_some_iff.1 ho).1
  have lm : m < ops.size := (Array.getElem?_eq_some_iff.1 ho').1
  have h1 := (h k lk).resolve_left (by rw [hk]; simp) m lm
  rcases h1 with (h1 | h1) | h1
  · rw [hm] at h1; cases h1
  · exact absurd h1 hne
  · simpa [ho, ho', hd] using h1

theorem runK_sound (hs : Region.noSelect ops = true) (hfs : ∀ j, fin j = true → j < ops.size) (hap : alApart ops al = true)
    (hQ : ∀ c a (d : Option Tmp) v w, Q (.panic c) (a.put d v) w → Q (.panic c) a w) (hQ' : ∀ c a (d : Option Tmp) v w, Q (.panic c) a w → Q (.panic c) (a.put d v) w) :
    ∀ (ord : List Ko) (listed : Array Bool) (fuel : Nat) (tk : List Nat) (a : Act) (w : World), Shutd ops listed → ordOkK ops fin al ord listed = true → ord.length ≤ fuel → left ops listed ≤ fuel →
      RunK P ops Q B ord tk a w → AnyK P ops Q B fin al fuel listed tk a w := by
  intro ord
  induction ord with
  | nil =>
    intro listed fuel tk a w _ hk _ _ h
    have hr : Region.ready .any ops listed = [] := by simpa [ordOkK] using hk
    cases fuel with
    | zero => exact ⟨hr, h⟩
    | succ f => exact ⟨fun _ => h, by rw [hr]; simp⟩
  | cons x r ih =>
    intro listed fuel tk a w hc hk hf hlf h
    obtain ⟨fuel, rfl⟩ : ∃ f, fuel = f + 1 := ⟨fuel - 1, by simp at hf; omega⟩
    have hf' : r.length ≤ fuel := by simp at hf; omega
    cases x with
    | quiet i =>
      obtain ⟨o, v, ho, hy, h⟩ := h
      simp only [ordOkK, Bool.and_eq_true, Bool.not_eq_true', List.all_eq_true, List.mem_range, Bool.or_eq_true] at hk
      obtain ⟨⟨⟨⟨⟨k1, k2⟩, k3⟩, k4⟩, k5⟩, k6⟩ := hk
      have hr : i ∈ Region.ready .any ops listed := by simpa using k2
      refine AnyK.first ho k3 k4 (fun j hj => ?_) (Region.noSelect_spec hs) (fun c a w => hQ c a _ v w) fuel listed tk a w hc (Region.free_spec ho k1) hr hy
        (ih _ fuel tk _ w (hc.set hr) k6 hf' (by have := left_set hr; omega) h)
      rcases k5 j (hfs j hj) with h1 | h1
      · rw [hj] at h1; cases h1
      · exact h1
    | call i pend =>
      obtain ⟨harm, h⟩ := h
      simp only [ordOkK, Bool.and_eq_true, Bool.not_eq_true', List.all_eq_true, Bool.or_eq_true, beq_iff_eq] at hk
      obtain ⟨⟨⟨⟨⟨⟨⟨k1, k2⟩, k3⟩, k4⟩, k5⟩, k6⟩, k7⟩, k8⟩ := hk
      have hr : i ∈ Region.ready .any ops listed := by simpa using k2
      obtain ⟨_, o, ho, _⟩ := mem_ready.1 hr
      refine AnyK.next ho k3 k5 (Region.noSelect_spec hs) (alApart_spec hap) hQ' fuel listed tk a w hc (by omega) (Region.free_spec ho k1) hr (fun k hk hki => ?_) (fun ha => (by rw [k4] at ha; cases ha)) (fun W hW => ⟨fun ha => (by rw [k4] at ha; cases ha), fun _ => ?_⟩)
      · have hp := (k6 k hk).resolve_left hki
        exact ⟨k7 k (by simpa using hp), harm k (by simpa using hp)⟩
      · exact wpOp_mono (fun a' w' ⟨h1, t, h2, h3⟩ => ⟨h1, t, h2, ih _ fuel _ a' w' (hc.set hr) k8 hf' (by have := left_set hr; omega) h3⟩) (h W hW)
    | make i pend =>
      obtain ⟨harm, o, vs, ty, kd, ho, hw, hm, h⟩ := h
      simp only [ordOkK, Bool.and_eq_true, Bool.not_eq_true', List.all_eq_true, Bool.or_eq_true, beq_iff_eq] at hk
      obtain ⟨⟨⟨⟨⟨⟨⟨k1, k2⟩, k3⟩, k4⟩, k5⟩, k6⟩, k7⟩, k8⟩ := hk
      have hr : i ∈ Region.ready .any ops listed := by simpa using k2
      refine AnyK.next ho k3 k5 (Region.noSelect_spec hs) (alApart_spec hap) hQ' fuel listed tk a w hc (by omega) (Region.free_spec ho k1) hr (fun k hk hki => ?_) (fun _ => ⟨o, vs, ty, kd, ho, hw, hm⟩)
        (fun W hW => ⟨fun _ o' vs' ty' kd' ho' hw' hm' g hg hn hO => ?_, fun ha => (by rw [k4] at ha; cases ha)⟩)
      · have hp := (k6 k hk).resolve_left hki
        exact ⟨k7 k (by simpa using hp), harm k (by simpa using hp)⟩
      · rw [ho] at ho'; cases ho'
        obtain ⟨rfl, rfl, rfl⟩ := hm.one rfl hm'
        exact ih _ fuel _ _ W (hc.set hr) k8 hf' (by have := left_set hr; omega) (h W hW g hg hn hO)
    | last i =>
      simp only [ordOkK, Bool.and_eq_true, Bool.not_eq_true', beq_iff_eq] at hk
      obtain ⟨⟨⟨⟨k1, k2⟩, k3⟩, k4⟩, k5⟩ := hk
      have hr : i ∈ Region.ready .any ops listed := by rw [k1]; simp
      refine ⟨fun h0 => (by rw [k1] at h0; cases h0), ?_⟩
      rw [k1]
      intro j hj W hW
      obtain rfl := List.mem_singleton.1 hj
      refine ⟨fun ha => (by rw [k3] at ha; cases ha), fun _ => wpOp_mono (fun a' w' ⟨h1, h2⟩ => ⟨fun hh => (by rw [k2] at hh; cases hh), h1, [], by simp, ?_⟩) (h W hW)⟩
      exact ih _ fuel _ a' w' (hc.set hr) k5 hf' (by have := left_set hr; omega) h2

theorem wp_region_k (ord : List Ko) {id : Nat} {a : Act} {w : World} (hm : P.follows .mixedOrders = true) (hs : Region.noSelect ops = true)
    (hk : (ordOkK ops (Ko.fins ord) (Ko.mks ord) ord (Array.replicate ops.size false) && decide (ord.length ≤ ops.size) && alApart ops (Ko.mks ord) &&
      ord.all (fun | .last j => decide (j < ops.size) | _ => true)) = true)
    (hQ : ∀ c a (d : Option Tmp) v w, Q (.panic c) (a.put d v) w → Q (.panic c) a w) (hQ' : ∀ c a (d : Option Tmp) v w, Q (.panic c) a w → Q (.panic c) (a.put d v) w)
    (h : RunK P ops Q w.heap.size ord [] a w.drew) : (Code.region id ops true).wp P Q a w := by
  simp only [Bool.and_eq_true, decide_eq_true_eq, List.all_eq_true] at hk
  refine wp_region_any hm (AnyK.any (B := w.heap.size) (fin := Ko.fins ord) (al := Ko.mks ord) _ _ [] _ w.drew (Nat.le_refl _) (by simp) (runK_sound hs ?_ hk.1.2 hQ hQ' ord _ _ [] a w.drew ?_ hk.1.1.1 hk.1.1.2 ?_ h))
  · intro j hj
    obtain ⟨x, hx, hb⟩ := List.any_eq_true.1 hj
    have := hk.2 x hx
    cases x <;> simp at hb
    subst hb; simpa using this
  · intro k o hl
    by_cases hlt : k < ops.size
    · simp [hlt] at hl
    · simp [hlt] at hl
  · unfold left
    exact Nat.le_trans (List.countP_le_length) (by simp)
end
end Go.Proofs.Ytdpongijmmdnoaa
