/- The trees are sound: regions, code, functions. Over any program. -/
import Derived.Test.YtdpongijmmdnoaaSye
namespace Go.Proofs.Ytdpongijmmdnoaa
open Go.RowKit

section
variable {P : Program} {orc : Orc} {fn : Func} {w0 : World} {R : Ending → World → Prop} {st : Sym} {env env' : List Value} {gs gs' : List Nat} {a : Act} {w : World} {ops : Array Oper} {Q : Exit → Act → World → Prop} {L : List (List Value → Prop)}

/-- one operation, wanted or not -/
theorem opC_ok {o : Oper} {k : Sym → Option Tree} {t : Tree} (hq : opC P orc ops o st k = some t) (h : Den w0 st env gs a w) (hT : TWp P w0 R t L env gs) {K : Act → World → Prop}
    (hK : ∀ st' t' env' gs' a' w', w.heap.size ≤ w'.heap.size → k st' = some t' → st'.dep = st.dep → env <+: env' → gs <+: gs' → (cls P o ≠ 1 → cls P o ≠ 5 → cls P o ≠ 3 → gs' = gs ∧ Kin st st') → Den w0 st' env' gs' a' w' → TWp P w0 R t' L env' gs' → K a' w') :
    (Region.wanted o (yielded ops a.tmps) = true → o.wp P a w K Q) ∧ (Region.wanted o (yielded ops a.tmps) = false → K (a.put o.dst undef) w) := by
  unfold opC at hq
  have hp : env <+: env := List.prefix_refl _
  have hg : gs <+: gs := List.prefix_refl _
  split at hq
  · cases hq
  · rename_i hgd
    have hw := gdS_ok h hgd
    refine ⟨fun h1 => (by rw [hw] at h1; cases h1), fun _ => hK _ t env gs _ w (Nat.le_refl _) hq ?_ hp hg (fun _ _ _ => ⟨rfl, ?_⟩) (h.put o.dst (fun _ => ⟨rfl, fun x hx => by cases hx⟩)) hT⟩
    · cases o.dst <;> rfl
    · cases o.dst <;> exact ⟨rfl, rfl⟩
  · rename_i hgd
    have hw := gdS_ok h hgd
    refine ⟨fun _ => ?_, fun h1 => (by rw [hw] at h1; cases h1)⟩
    split at hq
    · rename_i hcl
      have := callC_ok (Q := Q) hq h hT (Fut.refl w)
      refine Oper.wp_mono (fun a' w' ⟨hF, st', t', env', gs2, h1, h2, h3, _, h4, h5⟩ => hK st' t' env' (gs ++ gs2) a' w' hF.size h1 h2.1 h3 (List.prefix_append _ _) (fun hh => absurd hcl hh) h4 h5) this
    · exact storeC_ok hq h hT fun st' t' env' a' w' hs h1 h2 h3 h4 h5 => hK st' t' env' gs a' w' hs h1 h2.1 h3 hg (fun _ _ _ => ⟨rfl, h2⟩) h4 h5
    · rename_i hcl
      exact appC_ok hq h hT fun st' t' env' a' w' hs h1 h2 h3 h4 h5 => hK st' t' env' gs a' w' hs h1 h2 h3 hg (fun _ _ hh => absurd hcl hh) h4 h5
    · rename_i hcl
      obtain ⟨vs, ty, kd, hm, hk⟩ := makeC_ok hq h hT
      unfold Oper.wp
      rw [hm w, Oper.upon_value]
      have hlt := h.mem.below.size
      have hF : Fut w (w.alloc (.cells vs.toArray ty (0, 0))) := (Below.refl _ _).alloc (Nat.le_refl _) _
      obtain ⟨st', t', h1, h2, h3, h4⟩ := hk _ hF w.heap.size hlt (fun hx => by have := (h.gs_lt _ hx).2; omega) (fun r hr v hv hb => by have := ((h.rws.own r hr).lt hv hb).2; omega) (Own.new w vs ty)
      exact hK st' t' env (gs ++ [w.heap.size]) _ _ hF.size h1 h2.1 hp (List.prefix_append _ _) (fun _ hh => absurd hcl hh) h3 h4
    · obtain ⟨v, st', t', env', hy, h1, h2, h3, h4, h5⟩ := quietC_ok hq h hT
      unfold Oper.wp
      rw [hy w (Fut.refl w), Oper.upon_value]
      exact hK st' t' env' gs _ w (Nat.le_refl _) h1 h2.1 h3 hg (fun _ _ _ => ⟨rfl, h2⟩) h4 h5

theorem seqC_ok : ∀ (l : List Oper) (st : Sym) (env : List Value) (gs : List Nat) (a : Act) (w : World) (k : Sym → Option Tree) (t : Tree), seqC P orc ops l st k = some t → Den w0 st env gs a w → TWp P w0 R t L env gs →
    (∀ st' t' env' gs' a' w', k st' = some t' → st'.dep = st.dep → env <+: env' → gs <+: gs' → Den w0 st' env' gs' a' w' → TWp P w0 R t' L env' gs' → Q .normal a' w') → wpList P ops Q l a w
  | [], st, env, gs, a, w, k, t, hq, h, hT, hK => hK st t env gs a w hq rfl (List.prefix_refl _) (List.prefix_refl _) h hT
  | o :: r, st, env, gs, a, w, k, t, hq, h, hT, hK => by
    refine wpList_step fun K hKK => ?_
    have := opC_ok (Q := Q) hq h hT (K := K) fun st' t' env' gs' a' w' _ h1 h2 h3 h4 _ h5 h6 =>
      hKK a' w' (seqC_ok r st' env' gs' a' w' k t' h1 h5 h6 fun st2 t2 e2 g2 a2 w2 q1 q2 q3 q4 q5 q6 => hK st2 t2 e2 g2 a2 w2 q1 (q2.trans h2) (h3.trans q3) (h4.trans q4) q5 q6)
    split
    · rename_i hw; exact this.1 hw
    · rename_i hw; exact this.2 (by simpa using hw)

theorem armS_ok (h : Den w0 st env gs a w) {i : Nat} (ha : armS P ops st i = true) : Armed P ops i a := by
  unfold armS at ha
  cases ho : ops[i]? with
  | none => rw [ho] at ha; cases ha
  | some o =>
    rw [ho] at ha
    simp only [Option.map_some, Option.getD_some, Bool.and_eq_true, beq_iff_eq] at ha
    obtain ⟨m, hm⟩ := Option.isSome_iff_exists.1 ha.2
    exact ⟨o, _, _, _, ho, gdS_ok h ha.1, (mkS_ok hm h).1⟩

theorem rowsB {st' : Sym} {B : Nat} (h : Den w0 st env gs a w) (hk : Kin st st') (he : env <+: env') (hr : ∀ r ∈ st.rows, ∀ v g, env[r.kv]? = some v → v.ownBlock = some g → g < B) :
    ∀ r ∈ st'.rows, ∀ v g, env'[r.kv]? = some v → v.ownBlock = some g → g < B := by
  intro r hm v g hv hg
  rw [hk.2] at hm
  exact hr r hm v g ((h.rws.own r hm).back he hv) hg

theorem ordC_ok {B : Nat} (hB : w0.heap.size ≤ B) : ∀ (ord : List Ko) (st : Sym) (env : List Value) (gs tk : List Nat) (a : Act) (w : World) (k : Sym → Option Tree) (t : Tree), ordC P orc ops ord st k = some t → Den w0 st env gs a w → TWp P w0 R t L env gs →
    (∀ g ∈ gs, g < B ∨ g ∈ tk) → (∀ r ∈ st.rows, ∀ v g, env[r.kv]? = some v → v.ownBlock = some g → g < B) →
    (∀ st' t' env' gs' a' w', k st' = some t' → st'.dep = st.dep → env <+: env' → gs <+: gs' → Den w0 st' env' gs' a' w' → TWp P w0 R t' L env' gs' → Q .normal a' w') → RunK P ops Q B ord tk a w
  | [], st, env, gs, tk, a, w, k, t, hq, h, hT, _, _, hK => fun W hW => hK st t env gs a W hq rfl (List.prefix_refl _) (List.prefix_refl _) (h.fut hW) hT
  | .quiet i :: r, st, env, gs, tk, a, w, k, t, hq, h, hT, hi, hr0, hK => by
    simp only [ordC] at hq
    obtain ⟨o, ho, hq⟩ := Option.bind_eq_some_iff.1 hq
    split at hq
    · cases hq
    · rename_i hgd
      have hd' := h.put o.dst (v := .tup []) (x := undef) (fun _ => ⟨rfl, fun x hx => by cases hx⟩)
      refine ⟨o, undef, ho, .inr ⟨gdS_ok h hgd, rfl⟩, ordC_ok hB r _ env gs tk _ w k t hq hd' hT hi (by rw [show (st.put o.dst (.tup [])).rows = st.rows from by cases o.dst <;> rfl]; exact hr0) fun st' t' e' g' a' w' q1 q2 => hK st' t' e' g' a' w' q1 (q2.trans ?_)⟩
      cases o.dst <;> rfl
    · rename_i hgd
      obtain ⟨v, st', t', env', hy, h1, h2, h3, h4, h5⟩ := quietC_ok hq h hT
      exact ⟨o, v, ho, .inl ⟨gdS_ok h hgd, hy⟩, ordC_ok hB r st' env' gs tk _ w k t' h1 h4 h5 hi (rowsB h h2 h3 hr0) fun st2 t2 e2 g2 a2 w2 q1 q2 q3 => hK st2 t2 e2 g2 a2 w2 q1 (q2.trans h2.1) (h3.trans q3)⟩
  | .call i pend :: r, st, env, gs, tk, a, w, k, t, hq, h, hT, hi, hr0, hK => by
    simp only [ordC] at hq
    split at hq
    · rename_i hpend
      obtain ⟨o, ho, hq⟩ := Option.bind_eq_some_iff.1 hq
      refine ⟨fun j hj => armS_ok h (List.all_eq_true.1 hpend j hj), fun W hW => ?_⟩
      unfold wpOp
      simp only [ho]
      split at hq
      · cases hq
      · rename_i hgd
        have hw := gdS_ok h hgd
        simp only [hw, Bool.false_eq_true, if_false]
        have hd' := (h.fut hW).put o.dst (v := .tup []) (x := undef) (fun _ => ⟨rfl, fun x hx => by cases hx⟩)
        refine ⟨Fut.refl W, [], by simp, ordC_ok hB r _ env gs tk _ W k t hq hd' hT hi (by rw [show (st.put o.dst (.tup [])).rows = st.rows from by cases o.dst <;> rfl]; exact hr0) fun st' t' e' g' a' w' q1 q2 => hK st' t' e' g' a' w' q1 (q2.trans ?_)⟩
        cases o.dst <;> rfl
      · rename_i hgd
        have hw := gdS_ok h hgd
        simp only [hw, if_true]
        refine .inl (Oper.wp_mono (fun a' w' ⟨hF, st', t', env', gs2, h1, h2, h3, hb, h4, h5⟩ => ?_) (callC_ok (Q := Q) hq h hT hW))
        refine ⟨hF, gs2, hb, ordC_ok hB r st' env' (gs ++ gs2) (gs2 ++ tk) a' w' k t' h1 h4 h5 (fun g hg => ?_) (rowsB h h2 h3 hr0) fun st2 t2 e2 g2 a2 w2 q1 q2 q3 q4 => hK st2 t2 e2 g2 a2 w2 q1 (q2.trans h2.1) (h3.trans q3) ((List.prefix_append _ _).trans q4)⟩
        rcases List.mem_append.1 hg with hg | hg
        · rcases hi g hg with h6 | h6
          · exact .inl h6
          · exact .inr (List.mem_append_right _ h6)
        · exact .inr (List.mem_append_left _ hg)
    · cases hq
  | .make i pend :: r, st, env, gs, tk, a, w, k, t, hq, h, hT, hi, hr0, hK => by
    simp only [ordC] at hq
    split at hq
    · rename_i hpend
      obtain ⟨o, ho, hq⟩ := Option.bind_eq_some_iff.1 hq
      refine ⟨fun j hj => armS_ok h (List.all_eq_true.1 hpend j hj), ?_⟩
      split at hq
      · rename_i hgd
        obtain ⟨vs, ty, kd, hm, hk⟩ := makeC_ok hq h hT
        refine ⟨o, vs, ty, kd, ho, gdS_ok h hgd, hm, fun W hW g hg hn hO => ?_⟩
        obtain ⟨st', t', h1, h2, h3, h4⟩ := hk W hW g (by omega) (fun hx => by
          rcases hi g hx with h6 | h6
          · omega
          · exact hn h6) (fun r hr v hv hb => by have := hr0 r hr v g hv hb; omega) hO
        refine ordC_ok hB r st' env (gs ++ [g]) (g :: tk) _ W k t' h1 h3 h4 (fun x hx => ?_) (rowsB h h2 (List.prefix_refl _) hr0) fun st2 t2 e2 g2 a2 w2 q1 q2 q3 q4 => hK st2 t2 e2 g2 a2 w2 q1 (q2.trans h2.1) q3 ((List.prefix_append _ _).trans q4)
        rcases List.mem_append.1 hx with hx | hx
        · rcases hi x hx with h6 | h6
          · exact .inl h6
          · exact .inr (List.mem_cons_of_mem _ h6)
        · simp only [List.mem_singleton] at hx; subst hx; exact .inr List.mem_cons_self
      · cases hq
    · cases hq
  | .last i :: r, st, env, gs, tk, a, w, k, t, hq, h, hT, hi, hr0, hK => by
    simp only [ordC] at hq
    obtain ⟨o, ho, hq⟩ := Option.bind_eq_some_iff.1 hq
    split at hq
    · cases hq
    · rename_i hcl
      simp only [Bool.or_eq_true, beq_iff_eq, not_or] at hcl
      intro W hW
      have := opC_ok (Q := Q) hq (h.fut hW) hT (K := fun a' w' => W.heap.size ≤ w'.heap.size ∧ RunK P ops Q B r tk a' w') fun st' t' env' gs' a' w' hs h1 h2 h3 h4 hgg h5 h6 => by
        have hgs := hgg hcl.1.1 hcl.1.2 hcl.2
        refine ⟨hs, ordC_ok hB r st' env' gs' tk a' w' k t' h1 h5 h6 (by rw [hgs.1]; exact hi) (rowsB h hgs.2 h3 hr0) fun st2 t2 e2 g2 a2 w2 q1 q2 q3 q4 => hK st2 t2 e2 g2 a2 w2 q1 (q2.trans h2) (h3.trans q3) (h4.trans q4)⟩
      unfold wpOp
      simp only [ho]
      split
      · rename_i hw; exact .inl (this.1 hw)
      · rename_i hw; exact this.2 (by simpa using hw)

/-- a panic does not look at the slots -/
def PanOK (Q : Exit → Act → World → Prop) : Prop := ∀ c a (d : Option Tmp) v w, Q (.panic c) (a.put d v) w ↔ Q (.panic c) a w

def KOK (P : Program) (w0 : World) (R : Ending → World → Prop) (k : Exit → Sym → Option Tree) (Q : Exit → Act → World → Prop) (L : List (List Value → Prop)) (env : List Value) (gs : List Nat) : Prop :=
  ∀ e st' t', k e st' = some t' → ∀ L' env' gs' a' w', L <+: L' → env <+: env' → gs <+: gs' → L'.length = st'.dep → Den w0 st' env' gs' a' w' → TWp P w0 R t' L' env' gs' → Q e a' w'

theorem KOK.weak {k : Exit → Sym → Option Tree} {L' : List (List Value → Prop)} (h : KOK P w0 R k Q L env gs) (h1 : L <+: L') (h2 : env <+: env') (h3 : gs <+: gs') : KOK P w0 R k Q L' env' gs' :=
  fun e st' t' hk L2 e2 g2 a' w' q1 q2 q3 => h e st' t' hk L2 e2 g2 a' w' (h1.trans q1) (h2.trans q2) (h3.trans q3)

theorem exists_least {p : Nat → Prop} : ∀ n, p n → ∃ m, p m ∧ ∀ j, p j → m ≤ j := by
  intro n
  induction n using Nat.strongRecOn with
  | _ n ih =>
    intro hn
    by_cases h : ∃ m, m < n ∧ p m
    · obtain ⟨m, hm, hp⟩ := h
      exact ih m hm hp
    · exact ⟨n, hn, fun j hj => by
        rcases Nat.lt_or_ge j n with hl | hl
        · exact absurd ⟨j, hl, hj⟩ h
        · exact hl⟩

theorem wp_loop_ghost {σ : Type} {c : Code} (J : σ → Act → World → Prop) (μ : σ → Nat) (s0 : σ) (h0 : J s0 a w)
    (round : ∀ s a w, J s a w → c.wp P (Exit.then (fun a' w' => ∃ s', J s' a' w' ∧ μ s' < μ s) Q) a w) : (Code.loop c).wp P Q a w := by
  have ex : ∀ a w, (∃ s, J s a w) → ∃ m, (∃ s, J s a w ∧ μ s = m) ∧ ∀ j, (∃ s, J s a w ∧ μ s = j) → m ≤ j := fun a w ⟨s, hs⟩ => exists_least (p := fun m => ∃ s, J s a w ∧ μ s = m) (μ s) ⟨s, hs, rfl⟩
  let M : Act → World → Nat := fun a w => @dite _ (∃ s, J s a w) (Classical.propDecidable _) (fun h => Classical.choose (ex a w h)) (fun _ => 0)
  have hM : ∀ a w (h : ∃ s, J s a w), (∃ s, J s a w ∧ μ s = M a w) ∧ ∀ j, (∃ s, J s a w ∧ μ s = j) → M a w ≤ j := by
    intro a w h
    have e : M a w = Classical.choose (ex a w h) := by simp only [M, dif_pos h]
    rw [e]; exact Classical.choose_spec (ex a w h)
  refine wp_loop (fun a w => ∃ s, J s a w) M ⟨s0, h0⟩ fun a w h => ?_
  obtain ⟨⟨s, hs, hm⟩, _⟩ := hM a w h
  refine wp_mono (round s a w hs) fun e a' w' he => ?_
  cases e with
  | normal =>
    obtain ⟨s', hs', hlt⟩ := he
    refine ⟨⟨s', hs'⟩, ?_⟩
    have := (hM a' w' ⟨s', hs'⟩).2 (μ s') ⟨s', hs', rfl⟩
    show M a' w' < M a w
    omega
  | _ => exact he

theorem setI_other {st : Sym} {k : Nat} {i : Item} : (∀ t, isSlot [i] t = false → (setI st k i).slots[t]? = st.slots[t]?) ∧ (∀ b, isBlk [i] b = false → (setI st k i).blocks[b]? = st.blocks[b]?) ∧ (setI st k i).blocks.length = st.blocks.length ∧ (setI st k i).n = st.n ∧ (setI st k i).dep = st.dep := by
  cases i with
  | slot t pcs =>
    refine ⟨fun u hu => ?_, fun _ _ => rfl, rfl, rfl, rfl⟩
    simp only [isSlot, List.any_cons, List.any_nil, Bool.or_false, beq_eq_false_iff_ne] at hu
    simp only [setI]
    rw [List.getElem?_set, if_neg hu]
  | blk b pcs =>
    refine ⟨fun _ _ => rfl, fun c hc => ?_, by simp [setI], rfl, rfl⟩
    simp only [isBlk, List.any_cons, List.any_nil, Bool.or_false, beq_eq_false_iff_ne] at hc
    simp only [setI]
    rw [List.getElem?_modify]
    cases st.blocks[c]? <;> simp [hc]
  | row t T sz =>
    refine ⟨fun u hu => ?_, fun _ _ => rfl, rfl, rfl, rfl⟩
    simp only [isSlot, List.any_cons, List.any_nil, Bool.or_false, beq_eq_false_iff_ne] at hu
    simp only [setI]
    rw [List.getElem?_set, if_neg hu]
theorem setIs_other : ∀ {items : List Item} {st : Sym} {k : Nat}, (∀ t, isSlot items t = false → (setIs st k items).slots[t]? = st.slots[t]?) ∧ (∀ b, isBlk items b = false → (setIs st k items).blocks[b]? = st.blocks[b]?) ∧ (setIs st k items).blocks.length = st.blocks.length ∧ (setIs st k items).n = st.n ∧ (setIs st k items).dep = st.dep
  | [], _, _ => ⟨fun _ _ => rfl, fun _ _ => rfl, rfl, rfl, rfl⟩
  | i :: r, st, k => by
    obtain ⟨h1, h2, h3, h4, h5⟩ := setIs_other (items := r) (st := setI st k i) (k := k + i.pcs.length)
    obtain ⟨g1, g2, g3, g4, g5⟩ := setI_other (st := st) (k := k) (i := i)
    refine ⟨fun t ht => ?_, fun b hb => ?_, h3.trans g3, h4.trans g4, h5.trans g5⟩
    · simp only [isSlot, List.any_cons, Bool.or_eq_false_iff] at ht
      exact (h1 t ht.2).trans (g1 t (by simpa [isSlot] using ht.1))
    · simp only [isBlk, List.any_cons, Bool.or_eq_false_iff] at hb
      exact (h2 b hb.2).trans (g2 b (by simpa [isBlk] using hb.1))
theorem kill_slot : ∀ (kill : List Tmp) (s : List SV) (t : Nat) (x : SV), (kill.foldl (fun s t => s.set t .any) s)[t]? = some x → x ≠ .any → s[t]? = some x
  | [], s, t, x, h, _ => h
  | u :: r, s, t, x, h, hx => by
    have := kill_slot r (s.set u .any) t x h hx
    rw [List.getElem?_set] at this
    split at this
    · split at this
      · simp only [Option.some.injEq] at this; exact absurd this.symm hx
      · cases this
    · exact this

theorem retC_ok {t : Tree} (hq : retC P fn st = some t) (h : Den w0 st env gs a w) (hT : TWp P w0 R t L env gs) : a.defers = [] ∧ ∃ v, (results fn a.tmps).run P w = .ok v w ∧ R (.returned v) w := by
  unfold retC at hq
  obtain ⟨l, hl, rfl⟩ := Option.map_eq_some_iff.1 hq
  have hR := hT w (blOf_mem h _)
  refine ⟨h.df, _, ?_, hR⟩
  have one : ∀ (rv : ResultVar) (y : Leaf), resS P st rv = some y →
      ((match rv with | .tmp t => pure (a.tmps.getD t undef) | .cell p t => do loadVar t (← asAddr (a.tmps.getD p undef))) : Sem Value).run P w = .ok (y.den env gs) w := by
    intro rv y hy
    cases rv with
    | tmp t =>
      have := (leafOf_ok h hy).1
      have e : a.eval (.tmp t) = a.tmps.getD t undef := rfl
      simp only [Sem.run_pure]
      rw [← e, this]
    | cell p ty =>
      simp only [resS] at hy
      obtain ⟨bo, hbo, hy⟩ := Option.bind_eq_some_iff.1 hy
      obtain ⟨blk, hb, hy⟩ := Option.bind_eq_some_iff.1 hy
      obtain ⟨v, hv, hy⟩ := Option.bind_eq_some_iff.1 hy
      have hv' : v = .leaf y := by
        cases v <;> simp at hy
        rw [hy]
      subst hv'
      obtain ⟨ep, _⟩ := ptrOf_ok h hbo
      have hO := h.own hb (Fut.refl w)
      have e : a.eval (.tmp p) = a.tmps.getD p undef := rfl
      rw [e] at ep
      -- as a load out of the block
      have hx : opd st (.tmp p) = .leaf (.atom (.ptr bo.1 bo.2)) := by
        unfold ptrOf at hbo
        split at hbo
        · rename_i b o' hx; cases hbo; exact hx
        · cases hbo
      have hy := yf_load h (o := ⟨none, .load ty (.tmp p), 0, "", #[], none⟩) rfl hx hb hv w (Fut.refl w)
      unfold execOp at hy
      simp only [e, ep, Instr.loadAt, Instr.sureAddr, Sem.run_bind, Sem.run_pure, Result.andThen_ok] at hy
      simp only [ep, asAddr, Sem.run_bind, Sem.run_pure, Result.andThen_ok]
      generalize hh : (loadVar ty _).run P w = q at hy ⊢
      cases q with
      | ok v' w' => simp only [Result.andThen_ok, Result.ok.injEq, Next.value.injEq] at hy; rw [hy.1, hy.2]; rfl
      | halt x w' => simp at hy
  have hm : ∀ (rs : List ResultVar) (l : List Leaf), rs.mapM (resS P st) = some l →
      (rs.mapM (fun rv => ((match rv with | .tmp t => pure (a.tmps.getD t undef) | .cell p t => do loadVar t (← asAddr (a.tmps.getD p undef))) : Sem Value))).run P w = .ok (l.map (Leaf.den env gs)) w := by
    intro rs
    induction rs with
    | nil => intro l hl; simp at hl; subst hl; simp
    | cons x rs ih =>
      intro l hl
      simp only [List.mapM_cons, Option.bind_eq_bind, Option.pure_def, Option.bind_eq_some_iff] at hl
      obtain ⟨c, hc, r, hr, he⟩ := hl
      cases he
      simp only [List.mapM_cons, Sem.run_bind, one x c hc, Result.andThen_ok, ih r hr, Sem.run_pure, List.map_cons]
  unfold results
  rw [Array.mapM_eq_mapM_toList]
  have key := hm _ l hl
  simp only [Sem.run_bind, Sem.run_map]
  erw [key]
  simp only [Result.andThen_ok, Sem.run_pure]
  congr 1
  match l with
  | [] => simp [retV, SV.den]
  | [x] => simp [retV, SV.den]
  | x :: y :: r => simp [retV, SV.den]

theorem compC_ok : ∀ (c : Code) (cur : Nat) (st : Sym) (k : Exit → Sym → Option Tree) (t : Tree), compC P orc c cur st k = some t → ∀ (Q : Exit → Act → World → Prop), PanOK Q →
    ∀ (L : List (List Value → Prop)) (env : List Value) (gs : List Nat), KOK P w0 R k Q L env gs → L.length = st.dep → ∀ (a : Act) (w : World), Den w0 st env gs a w → TWp P w0 R t L env gs → c.wp P Q a w := by
  intro c
  induction c with
  | skip =>
    intro cur st k t hq Q hpan L env gs hk hL a w hd hT
    exact wp_skip (hk _ _ _ hq L env gs a w (List.prefix_refl _) (List.prefix_refl _) (List.prefix_refl _) hL hd hT)
  | label l =>
    intro cur st k t hq Q hpan L env gs hk hL a w hd hT
    exact wp_label (hk _ _ _ hq L env gs a w (List.prefix_refl _) (List.prefix_refl _) (List.prefix_refl _) hL hd hT)
  | region id ops draw =>
    intro cur st k t hq Q hpan L env gs hk hL a w hd hT
    simp only [compC] at hq
    cases draw with
    | false =>
      simp only [Bool.false_eq_true, if_false] at hq
      exact wp_region_list (seqC_ok ops.toList st env gs a w _ t hq hd hT fun st' t' env' gs' a' w' h1 h2 h3 h4 h5 h6 => hk _ _ _ h1 L env' gs' a' w' (List.prefix_refl _) h3 h4 (by rw [h2]; exact hL) h5 h6)
    | true =>
      simp only [if_true, drawC] at hq
      split at hq
      · rename_i hc
        simp only [Bool.and_eq_true] at hc
        obtain ⟨⟨c1, c2⟩, c3⟩ := hc
        refine wp_region_k _ c1 c2 c3 (fun c a d v w => (hpan c a d v w).1) (fun c a d v w => (hpan c a d v w).2) ?_
        exact ordC_ok hd.mem.below.size _ st env gs [] a w.drew _ t hq hd.drew hT (fun g hg => .inl (hd.gs_lt g hg).2) (fun r hr v g hv hg => ((hd.rws.own r hr).lt hv hg).2) fun st' t' env' gs' a' w' h1 h2 h3 h4 h5 h6 => hk _ _ _ h1 L env' gs' a' w' (List.prefix_refl _) h3 h4 (by rw [h2]; exact hL) h5 h6
      · cases hq
  | seq x y ihx ihy =>
    intro cur st k t hq Q hpan L env gs hk hL a w hd hT
    refine wp_seq (ihx cur st _ t hq (Exit.then (y.wp P Q) Q) (fun c a d v w => hpan c a d v w) L env gs ?_ hL a w hd hT)
    intro e st' t' he L' env' gs' a' w' h1 h2 h3 h4 h5 h6
    cases e with
    | normal => exact ihy cur st' k t' he Q hpan L' env' gs' (hk.weak h1 h2 h3) h4 a' w' h5 h6
    | _ => exact hk _ _ _ he L' env' gs' a' w' h1 h2 h3 h4 h5 h6
  | cond c x y ihx ihy =>
    intro cur st k t hq Q hpan L env gs hk hL a w hd hT
    simp only [compC] at hq
    split at hq
    · rename_i b hc
      have ec := (hd.opd hc (by simp)).1
      simp only [SV.den, Leaf.den, Atom.den] at ec
      refine wp_cond ec ?_
      cases b with
      | true => exact ihx cur st k t (by simpa using hq) Q hpan L env gs hk hL a w hd hT
      | false => exact ihy cur st k t (by simpa using hq) Q hpan L env gs hk hL a w hd hT
    · rename_i v hne hc
      obtain ⟨t1, h1, hq⟩ := Option.bind_eq_some_iff.1 hq
      obtain ⟨t2, h2, rfl⟩ := Option.map_eq_some_iff.1 hq
      have ec := (hd.opd hc (by simp)).1
      simp only [SV.den, Leaf.den] at ec
      obtain ⟨b, hb, hb1, hb2⟩ := hT
      rw [hb] at ec
      refine wp_cond ec ?_
      cases b with
      | true => exact ihx cur st k t1 h1 Q hpan L env gs hk hL a w hd (hb1 rfl)
      | false => exact ihy cur st k t2 h2 Q hpan L env gs hk hL a w hd (hb2 rfl)
    · cases hq
  | block id c ih =>
    intro cur st k t hq Q hpan L env gs hk hL a w hd hT
    refine wp_block (ih id st _ t hq (Exit.inBlock id Q) (fun c a d v w => hpan c a d v w) L env gs ?_ hL a w hd hT)
    intro e st' t' he L' env' gs' a' w' h1 h2 h3 h4 h5 h6
    cases e with
    | exit id' =>
      simp only at he
      simp only [Exit.inBlock]
      split at he
      · rename_i hid
        rw [if_pos hid]
        exact hk _ _ _ he L' env' gs' a' w' h1 h2 h3 h4 h5 h6
      · rename_i hid
        rw [if_neg hid]
        exact hk _ _ _ he L' env' gs' a' w' h1 h2 h3 h4 h5 h6
    | _ => exact hk _ _ _ he L' env' gs' a' w' h1 h2 h3 h4 h5 h6
  | loop c ih =>
    intro cur st k t hq Q hpan L env gs hk hL a w hd hT
    simp only [compC] at hq
    obtain ⟨items, hit, hq⟩ := Option.bind_eq_some_iff.1 hq
    obtain ⟨init, hin, hq⟩ := Option.bind_eq_some_iff.1 hq
    obtain ⟨body, hbo, rfl⟩ := Option.map_eq_some_iff.1 hq
    obtain ⟨I, μ, h0, hB⟩ := hT
    have hso := setIs_other (items := items) (st := { st with slots := (dsts c).foldl (fun s t => s.set t .any) st.slots, rows := rowsI st.n items, n := st.n + (ksOf items).length, dep := st.dep + 1 }) (k := st.n)
    obtain ⟨s1, s2, s3, s4, s5⟩ := hso
    have okS : ∀ (t : Nat) x, (headOf st items (dsts c)).slots[t]? = some x → x ≠ .any → isSlot items t = false → x.OK env gs := fun t x ht hx hi => by
      have ht' := (s1 t hi).symm.trans ht
      exact (hd.slots t x (kill_slot _ _ _ _ ht' hx) hx).2
    have okB : ∀ (b : Nat) x, (headOf st items (dsts c)).blocks[b]? = some x → isBlk items b = false → ∀ s ∈ x.1, s.OK env gs := fun b x hb hi => by
      have hb' := (s2 b hi).symm.trans hb
      exact hd.segs hb'
    have hgl : gs.length = (headOf st items (dsts c)).blocks.length := hd.gl.trans s3.symm
    obtain ⟨v1, v2⟩ := fits_ok hin hd (List.prefix_refl _) (List.prefix_refl _) hd.n hgl s4 okS okB
    refine wp_loop_ghost (σ := List Value) (fun vs a w => VarsOK (ksOf items) vs ∧ I vs ∧ Den w0 (headOf st items (dsts c)) (env ++ vs) gs a w) μ _ ⟨v1, h0, v2⟩ ?_
    intro vs a1 w1 ⟨j1, j2, j3⟩
    refine ih cur _ _ body hbo (Exit.then (fun a' w' => ∃ s', (VarsOK (ksOf items) s' ∧ I s' ∧ Den w0 (headOf st items (dsts c)) (env ++ s') gs a' w') ∧ μ s' < μ vs) Q) (fun c a d v w => hpan c a d v w) (L ++ [fun us => I us ∧ μ us < μ vs]) (env ++ vs) gs ?_ (by rw [List.length_append, hL]; exact s5.symm) a1 w1 j3 (hB vs j1 j2)
    intro e st' t' he L' env' gs' a' w' q1 q2 q3 q4 q5 q6
    cases e with
    | normal =>
      obtain ⟨v, hv, rfl⟩ := Option.map_eq_some_iff.1 he
      obtain ⟨p, hp, hpv⟩ := q6
      have hp' : p = fun us => I us ∧ μ us < μ vs := by
        obtain ⟨L2, rfl⟩ := q1
        rw [List.getElem?_append_left (by simp [hL]), List.getElem?_append_right (by omega), hL, Nat.sub_self] at hp
        simpa using hp.symm
      subst hp'
      obtain ⟨f1, f2⟩ := fits_ok hv q5 ((List.prefix_append _ _).trans q2) q3 hd.n hgl s4 okS okB
      exact ⟨_, ⟨f1, hpv.1, f2⟩, hpv.2⟩
    | _ => exact hk _ _ _ he L' env' gs' a' w' ((List.prefix_append _ _).trans q1) ((List.prefix_append _ _).trans q2) q3 q4 q5 q6
  | exit id =>
    intro cur st k t hq Q hpan L env gs hk hL a w hd hT
    exact wp_exit (hk _ _ _ hq L env gs a w (List.prefix_refl _) (List.prefix_refl _) (List.prefix_refl _) hL hd hT)
  | ret =>
    intro cur st k t hq Q hpan L env gs hk hL a w hd hT
    exact wp_ret (hk _ _ _ hq L env gs a w (List.prefix_refl _) (List.prefix_refl _) (List.prefix_refl _) hL hd hT)
  | rangeFunc f params assign body => intro cur st k t hq; cases hq
  | scope body => intro cur st k t hq; cases hq
  | goto l => intro cur st k t hq; cases hq
  | refuse why => intro cur st k t hq; cases hq

/-- the state in which a call begins -/
def symIn (ps : List Leaf) (ntmps n : Nat) : Sym := { slots := ps.map .leaf ++ List.replicate (ntmps - ps.length) (.tup []), blocks := [], rows := [], n := n, dep := 0 }

theorem calls_tree {f : FuncId} {fn : Func} {c : Code} (orc : Orc) (ps : List Leaf) (env : List Value) {args : Array Value} {R : Ending → World → Prop} {t : Tree} (hf : P.funcs[f]? = some fn) (hb : fn.body = some c)
    (hc : compF P fn orc c (symIn ps fn.ntmps env.length) = some t) (ha : args = (ps.map (Leaf.den env [])).toArray) (ok : ∀ x ∈ ps, x.OK env [])
    (hT : TWp P w R t [] env []) : Calls P f args w R := by
  subst ha
  refine calls_of_wp hf hb (compC_ok c 0 _ _ t hc _ (fun c a d v w => by cases d <;> exact Iff.rfl) [] env [] ?_ rfl _ w ?_ hT)
  · intro e st' t' he L' env' gs' a' w' h1 h2 h3 h4 h5 h6
    cases e with
    | normal => exact retC_ok he h5 h6
    | ret => exact retC_ok he h5 h6
    | _ => cases he
  · refine ⟨rfl, rfl, by simp [symIn], fun t x ht hx => ?_, ⟨Below.refl _ _, by simp [bsD], by simp [bsD]⟩, by simp [symIn], rfl, ⟨by simp [symIn], by simp [symIn], by simp [symIn]⟩⟩
    simp only [symIn] at ht
    by_cases hlt : t < ps.length
    · rw [List.getElem?_append_left (by simpa using hlt)] at ht
      rw [List.getElem?_map, List.getElem?_eq_getElem hlt] at ht
      cases ht
      refine ⟨?_, ok _ (List.getElem_mem _)⟩
      simp [Array.getD, hlt, SV.den]
      omega
    · rw [List.getElem?_append_right (by simp; omega)] at ht
      have hx' := List.eq_of_mem_replicate (List.mem_of_getElem? ht)
      subst hx'
      refine ⟨?_, fun y hy => by cases hy⟩
      have hl := (List.getElem?_eq_some_iff.1 ht).1
      simp only [List.length_map, List.length_replicate] at hl
      have : t < (Array.mk (ps.map (Leaf.den env [])) ++ Array.replicate (fn.ntmps - (ps.map (Leaf.den env [])).toArray.size) undef).size := by simp; omega
      simp [Array.getElem?_append, hlt, SV.den]
      rw [Array.getElem?_replicate, if_pos hl]
      rfl
end
end Go.Proofs.Ytdpongijmmdnoaa
