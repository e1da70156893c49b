/- The trees are sound: operations. Over any program. -/
import Derived.Test.YtdpongijmmdnoaaSyc
import Derived.Test.YtdpongijmmdnoaaSli
namespace Go.Proofs.Ytdpongijmmdnoaa
open Go.RowKit

section
variable {P : Program} {orc : Orc} {w0 : World} {R : Ending → World → Prop} {st : Sym} {env env' : List Value} {gs gs' : List Nat} {a : Act} {w : World} {ops : Array Oper} {Q : Exit → Act → World → Prop} {L : List (List Value → Prop)}

theorem bsA_pre (h : env <+: env') (g : gs <+: gs') : ∀ (bl : List Blk) (ad : List Nat), (∀ b ∈ bl, ∀ s ∈ b.1, s.OK env gs) → bsA env' gs' ad bl = bsA env gs ad bl
  | [], ad, _ => by cases ad <;> rfl
  | b :: bl, [], _ => rfl
  | b :: bl, x :: ad, hb => by
    have e := bsA_pre h g bl ad fun c hc => hb c (List.mem_cons_of_mem _ hc)
    have := (flat_pre h g (hb b (by simp))).2
    simp only [bsA, List.zipWith_cons_cons, catS_flat] at e ⊢
    rw [this, e]
theorem bsA_app (ad ad' : List Nat) (bl bl' : List Blk) (h : ad.length = bl.length) : bsA env gs (ad ++ ad') (bl ++ bl') = bsA env gs ad bl ++ bsA env gs ad' bl' := by
  unfold bsA; exact List.zipWith_append h
theorem bsD_eq (bl : List Blk) : bsD env gs bl = bsA env gs gs bl := rfl

theorem getQ_pre (h : env <+: env') {k : Nat} {v : Value} (hk : env[k]? = some v) : env'[k]? = some v := by
  obtain ⟨e, rfl⟩ := h
  rw [List.getElem?_append_left (List.getElem?_eq_some_iff.1 hk).1]; exact hk
theorem ownsRow_fut {base : Nat} {e : TypeId} {size : Nat} {v : Value} {n : Nat} {xs : List Value} {w W : World} (h : w.ownsRow base e size v n xs) (hW : Fut w W) : W.ownsRow base e size v n xs := by
  refine ⟨h.1, ?_⟩
  rcases h.2 with hn | ⟨g, cap, cur, rfl, hb, hgg, rest⟩
  · exact .inl hn
  · refine .inr ⟨g, cap, cur, rfl, hb, ?_, rest⟩
    rw [hW.block g (Array.getElem?_eq_some_iff.1 hgg).1]; exact hgg
theorem RowIn.pre (h : env <+: env') {r : RowS} (hr : RowIn w0 w env r) : RowIn w0 w env' r := by
  obtain ⟨v, cs, m, h1, h2, h3, h4⟩ := hr
  exact ⟨v, cs, m, getQ_pre h h1, getQ_pre h h2, h3, h4⟩
theorem RowIn.fut {W : World} {r : RowS} (hr : RowIn w0 w env r) (hW : Fut w W) : RowIn w0 W env r := by
  obtain ⟨v, cs, m, h1, h2, h3, h4⟩ := hr
  exact ⟨v, cs, m, h1, h2, h3, ownsRow_fut h4 hW⟩
theorem RowIn.back (h : env <+: env') {r : RowS} (hr : RowIn w0 w env r) {v : Value} (hv : env'[r.kv]? = some v) : env[r.kv]? = some v := by
  obtain ⟨u, cs, m, h1, _⟩ := hr
  rw [getQ_pre h h1] at hv; rw [h1]; exact hv
theorem RowIn.lt {r : RowS} (hr : RowIn w0 w env r) {v : Value} {g : Nat} (hv : env[r.kv]? = some v) (hg : v.ownBlock = some g) : w0.heap.size ≤ g ∧ g < w.heap.size := by
  obtain ⟨u, cs, m, h1, _, _, h4⟩ := hr
  rw [h1] at hv; cases hv
  exact h4.lt g hg
theorem pw_mem {α : Type} {R S : α → α → Prop} {l : List α} (h : l.Pairwise R) (hi : ∀ x ∈ l, ∀ y ∈ l, R x y → S x y) : l.Pairwise S := by
  induction l with
  | nil => exact List.Pairwise.nil
  | cons x l ih =>
    obtain ⟨h1, h2⟩ := List.pairwise_cons.1 h
    exact List.pairwise_cons.2 ⟨fun y hy => hi x (by simp) y (List.mem_cons_of_mem _ hy) (h1 y hy), ih h2 fun a ha b hb => hi a (List.mem_cons_of_mem _ ha) b (List.mem_cons_of_mem _ hb)⟩
theorem RowsOK.pre {rows : List RowS} (hr : RowsOK w0 w env gs rows) (h : env <+: env') : RowsOK w0 w env' gs rows :=
  ⟨fun r m => (hr.own r m).pre h, fun r m v g hv hg => hr.gs r m v g ((hr.own r m).back h hv) hg,
    pw_mem hr.pw fun r m s k hp v u g hv hu => hp v u g ((hr.own r m).back h hv) ((hr.own s k).back h hu)⟩
theorem RowsOK.fut {rows : List RowS} {W : World} (hr : RowsOK w0 w env gs rows) (hW : Fut w W) : RowsOK w0 W env gs rows := ⟨fun r m => (hr.own r m).fut hW, hr.gs, hr.pw⟩
theorem RowsOK.more {rows : List RowS} {ad : List Nat} (hr : RowsOK w0 w env gs rows) (h : ∀ r ∈ rows, ∀ v g, env[r.kv]? = some v → v.ownBlock = some g → g ∉ ad) : RowsOK w0 w env (gs ++ ad) rows :=
  ⟨hr.own, fun r m v g hv hg hx => by
    rcases List.mem_append.1 hx with hx | hx
    · exact hr.gs r m v g hv hg hx
    · exact h r m v g hv hg hx, hr.pw⟩
theorem RowsOK.turn {rows : List RowS} (hr : RowsOK w0 w env gs rows) {g : Nat} (hg : g ∈ gs) (cs : Array Value) : RowsOK w0 (w.setRow g cs) env gs rows := by
  refine ⟨fun r m => ?_, hr.gs, hr.pw⟩
  obtain ⟨v, xs, n, h1, h2, h3, h4⟩ := hr.own r m
  refine ⟨v, xs, n, h1, h2, h3, h4.1, ?_⟩
  rcases h4.2 with hn | ⟨g', cap, cur, rfl, hb, hgg, rest⟩
  · exact .inl hn
  · refine .inr ⟨g', cap, cur, rfl, hb, ?_, rest⟩
    rw [Go.setRow_other w g g' cs (fun e => hr.gs r m _ g' h1 rfl (e ▸ hg))]; exact hgg

/-- the same rows, and loops -/
def Kin (st st' : Sym) : Prop := st'.dep = st.dep ∧ st'.rows = st.rows

theorem Den.put (h : Den w0 st env gs a w) (d : Option Tmp) {v : SV} {x : Value} (hv : v ≠ .any → x = v.den env gs ∧ v.OK env gs) : Den w0 (st.put d v) env gs (a.put d x) w := by
  cases d with
  | none => exact h
  | some t =>
    refine ⟨h.n, h.gl, by simp [Act.put, Sym.put, h.sl], fun u y hu hy => ?_, h.mem, h.bok, h.df, h.rws⟩
    simp only [Sym.put, List.getElem?_set] at hu
    by_cases htu : t = u
    · subst htu
      rw [if_pos rfl] at hu
      split at hu
      · rename_i hlt
        cases hu
        obtain ⟨e, ok⟩ := hv hy
        have hlt' : t < a.tmps.size := by rw [h.sl]; exact hlt
        refine ⟨?_, ok⟩
        simp [Act.put, hlt', e]
      · cases hu
    · rw [if_neg htu] at hu
      obtain ⟨e, ok⟩ := h.slots u y hu hy
      refine ⟨?_, ok⟩
      simp [Act.put, Array.getElem?_setIfInBounds_ne htu]
      simpa using e

theorem Den.fut (h : Den w0 st env gs a w) {W : World} (hW : Fut w W) : Den w0 st env gs a W := ⟨h.n, h.gl, h.sl, h.slots, h.mem.call hW, h.bok, h.df, h.rws.fut hW⟩
theorem Den.drew (h : Den w0 st env gs a w) : Den w0 st env gs a w.drew := ⟨h.n, h.gl, h.sl, h.slots, h.mem.drew, h.bok, h.df, h.rws.fut (Below.refl _ w).drew⟩

theorem Den.grow (h : Den w0 st env gs a w) (vs : List Value) {n : Nat} (hn : vs.length = n) : Den w0 (st.grow n) (env ++ vs) gs a w := by
  have hp : env <+: env ++ vs := List.prefix_append _ _
  have hg : gs <+: gs := List.prefix_refl _
  refine ⟨by simp [Sym.grow, h.n, hn], h.gl, h.sl, fun t x ht hx => ?_, ?_, fun b hb s hs => (Seg.pre hp hg (h.bok b hb s hs)).1, h.df, h.rws.pre hp⟩
  · obtain ⟨e, ok⟩ := h.slots t x ht hx
    obtain ⟨p1, p2⟩ := SV.pre hp hg ok
    exact ⟨by rw [p2]; exact e, p1⟩
  · show St w0 w (bsD (env ++ vs) gs st.blocks)
    rw [bsD_eq, bsA_pre hp hg _ _ h.bok]; exact h.mem

/-- more blocks of the call's own -/
theorem St.more {bs cs : List (Nat × List Value × TypeId)} (h : St w0 w bs) (h1 : ∀ x ∈ cs, w0.heap.size ≤ x.1 ∧ Own w x.1 x.2.1 x.2.2) (h2 : cs.Pairwise fun x y => x.1 ≠ y.1) (h3 : ∀ x ∈ bs, ∀ y ∈ cs, x.1 ≠ y.1) : St w0 w (bs ++ cs) := by
  refine ⟨h.below, fun x hx => ?_, List.pairwise_append.2 ⟨h.apart, h2, h3⟩⟩
  rcases List.mem_append.1 hx with hx | hx
  · exact h.own x hx
  · exact h1 x hx

theorem Den.blk (h : Den w0 st env gs a w) (ad : List Nat) (nb : List Blk) (hl : ad.length = nb.length) (ok : ∀ b ∈ nb, ∀ s ∈ b.1, s.OK env (gs ++ ad))
    (h1 : ∀ x ∈ bsA env (gs ++ ad) ad nb, w0.heap.size ≤ x.1 ∧ Own w x.1 x.2.1 x.2.2) (h2 : (bsA env (gs ++ ad) ad nb).Pairwise fun x y => x.1 ≠ y.1) (h3 : ∀ x ∈ gs, x ∉ ad) (h4 : ∀ r ∈ st.rows, ∀ v g, env[r.kv]? = some v → v.ownBlock = some g → g ∉ ad) : Den w0 (st.blk nb) env (gs ++ ad) a w := by
  have hp : env <+: env := List.prefix_refl _
  have hg : gs <+: gs ++ ad := List.prefix_append _ _
  refine ⟨h.n, by simp [Sym.blk, h.gl, hl], h.sl, fun t x ht hx => ?_, ?_, fun b hb s hs => ?_, h.df, h.rws.more h4⟩
  · obtain ⟨e, ok⟩ := h.slots t x ht hx
    obtain ⟨p1, p2⟩ := SV.pre hp hg ok
    exact ⟨by rw [p2]; exact e, p1⟩
  · show St w0 w (bsD env (gs ++ ad) (st.blocks ++ nb))
    rw [bsD_eq, bsA_app _ _ _ _ h.gl, bsA_pre hp hg _ _ h.bok]
    refine h.mem.more h1 h2 fun x hx y hy => ?_
    have mem : ∀ (E : List Value) (G : List Nat) (l : List Nat) (bl : List Blk) x, x ∈ bsA E G l bl → x.1 ∈ l := by
      intro E G l
      induction l with
      | nil => intro bl x hx; cases bl <;> cases hx
      | cons g l ih =>
        intro bl x hx
        cases bl with
        | nil => cases hx
        | cons b bl =>
          simp only [bsA, List.zipWith_cons_cons] at hx
          rcases List.mem_cons.1 hx with rfl | hx
          · simp
          · exact List.mem_cons_of_mem _ (ih bl x hx)
    exact fun e => h3 _ (mem _ _ _ _ _ hx) (e ▸ mem _ _ _ _ _ hy)
  · rcases List.mem_append.1 hb with hb | hb
    · exact (Seg.pre hp hg (h.bok b hb s hs)).1
    · exact ok b hb s hs

theorem Den.gs_lt (h : Den w0 st env gs a w) : ∀ g ∈ gs, w0.heap.size ≤ g ∧ g < w.heap.size := by
  intro g hg
  obtain ⟨b, hb⟩ := List.mem_iff_getElem?.1 hg
  have hlt : b < st.blocks.length := by rw [← h.gl]; exact (List.getElem?_eq_some_iff.1 hb).1
  have e := bsD_get (env := env) h.gl (List.getElem?_eq_getElem hlt)
  have hgb : gs.getD b 0 = g := by simp [List.getD, hb]
  rw [hgb] at e
  exact ⟨(h.mem.own _ (List.mem_of_getElem? e)).1, (h.mem.own _ (List.mem_of_getElem? e)).2.lt⟩

theorem nz_ok {v u : SV} (h : nz v = some u) : u = v ∧ v ≠ .any := by
  cases v <;> simp [nz] at h <;> subst h <;> exact ⟨rfl, by simp⟩

theorem qval_ok {o : Oper} {v : SV} (hq : qval P st o.op = some v) (h : Den w0 st env gs a w) : YF P o a w (v.den env gs) ∧ v.OK env gs ∧ v ≠ .any := by
  unfold qval at hq
  split at hq
  · rename_i x hop
    obtain ⟨rfl, hv⟩ := nz_ok hq
    obtain ⟨e, ok⟩ := h.opd rfl hv
    exact ⟨yf_move (.inl hop) e, ok, hv⟩
  · rename_i x hop
    obtain ⟨rfl, hv⟩ := nz_ok hq
    obtain ⟨e, ok⟩ := h.opd rfl hv
    exact ⟨yf_move (.inr hop) e, ok, hv⟩
  · rename_i c x y hop
    split at hq
    · rename_i b hc
      obtain ⟨rfl, hv⟩ := nz_ok hq
      obtain ⟨e, ok⟩ := h.opd rfl hv
      have ec := (h.opd hc (by simp)).1
      simp only [SV.den, Leaf.den, Atom.den] at ec
      refine ⟨fun W hW => ?_, ok, hv⟩
      unfold execOp
      simp only [hop, ec, asBool, Sem.run_bind, Sem.run_pure, Result.andThen_ok]
      rw [← e]
      cases b <;> rfl
    · cases hq
  · rename_i ty x hop
    split at hq
    · rename_i b hc
      cases hq
      have ec := (h.opd hc (by simp)).1
      simp only [SV.den, Leaf.den, Atom.den] at ec
      refine ⟨fun W hW => ?_, rfl, by simp⟩
      unfold execOp
      simp only [hop, ec, Op.unary, Sem.run_bind, Sem.run_pure, Result.andThen_ok]
      rfl
    · cases hq
  · rename_i ty x hop
    split at hq
    · rename_i b off hx
      obtain ⟨blk, hb, hv⟩ := Option.bind_eq_some_iff.1 hq
      have := partS_ok hv (h.segs hb)
      exact ⟨yf_load h hop hx hb hv, this.2.1, this.1⟩
    · cases hq
  · rename_i ty x k hop
    split at hq
    · rename_i l hx
      obtain ⟨f, hf, hv⟩ := Option.bind_eq_some_iff.1 hq
      have ok := (h.opd hx (by simp)).2
      have := partS_ok hv ok
      exact ⟨yf_field h hop hx hf hv, this.2.1, this.1⟩
    · cases hq
  · rename_i ty x k hop
    split at hq
    · rename_i b d hx
      obtain ⟨f, hf, hq⟩ := Option.bind_eq_some_iff.1 hq
      obtain ⟨n, hn, hq⟩ := Option.bind_eq_some_iff.1 hq
      split at hq
      · cases hq
      · rename_i h0
        cases hq
        have ok := (h.opd hx (by simp)).2
        exact ⟨yf_fieldAddr h hop hx hf hn (by simpa using h0), ok, by simp⟩
    · rename_i b d j sc hx
      obtain ⟨f, hf, hq⟩ := Option.bind_eq_some_iff.1 hq
      obtain ⟨n, hn, hq⟩ := Option.bind_eq_some_iff.1 hq
      split at hq
      · cases hq
      · rename_i h0
        cases hq
        have ok := (h.opd hx (by simp)).2
        exact ⟨yf_fieldAddrI h hop hx hf hn (by simpa using h0), ok, by simp⟩
    · cases hq
  · rename_i ty x i hop
    split at hq
    · rename_i b d kk m hx hi
      obtain ⟨f, hf, hq⟩ := Option.bind_eq_some_iff.1 hq
      obtain ⟨n, hn, hq⟩ := Option.bind_eq_some_iff.1 hq
      split at hq
      · rename_i hm
        cases hq
        have ok := (h.opd hx (by simp)).2
        exact ⟨yf_indexArr h hop hx hi hf hn hm, ok, by simp⟩
      · cases hq
    · rename_i b d len cap kk m hx hi
      obtain ⟨el, hf, hq⟩ := Option.bind_eq_some_iff.1 hq
      obtain ⟨n, hn, hq⟩ := Option.bind_eq_some_iff.1 hq
      split at hq
      · rename_i hm
        cases hq
        have ok := (h.opd hx (by simp)).2
        exact ⟨yf_indexSlc h hop hx hi hf hn hm, ok, by simp⟩
      · cases hq
    · cases hq
  · rename_i ty x lo hi hop
    split at hq
    · rename_i b d hx
      obtain ⟨f, hf, hq⟩ := Option.bind_eq_some_iff.1 hq
      obtain ⟨n, hn, hq⟩ := Option.bind_eq_some_iff.1 hq
      obtain ⟨l, hl, hq⟩ := Option.bind_eq_some_iff.1 hq
      obtain ⟨u, hu, hq⟩ := Option.bind_eq_some_iff.1 hq
      split at hq
      · rename_i hc
        cases hq
        have ok := (h.opd hx (by simp)).2
        exact ⟨yf_sliceArr h hop hx hf hn hl hu hc.1 hc.2, ok, by simp⟩
      · cases hq
    · cases hq
  · rename_i ty x hop
    split at hq
    · rename_i b d len cap hx
      obtain ⟨f, hf, hq⟩ := Option.bind_eq_some_iff.1 hq
      split at hq
      · rename_i hc
        cases hq
        have ok := (h.opd hx (by simp)).2
        exact ⟨yf_toArr h hop hx hf hc, ok, by simp⟩
      · cases hq
    · cases hq
  · rename_i x k hop
    split at hq
    · rename_i l hx
      obtain ⟨y, hy, hq⟩ := Option.map_eq_some_iff.1 hq
      subst hq
      have ok := (h.opd hx (by simp)).2
      exact ⟨yf_extract h hop hx hy, ok y (List.mem_of_getElem? hy), by simp⟩
    · cases hq
  · rename_i fn first caps hop
    split at hq
    · rename_i h0
      obtain ⟨cs, hcs, hq⟩ := Option.map_eq_some_iff.1 hq
      subst hq
      have : first = #[] := by simpa using h0
      subst this
      exact ⟨yf_makeFunc h hop hcs, (ptrsOf_ok h _ _ hcs).2, by simp⟩
    · cases hq
  · rename_i ty parts hop
    obtain ⟨l, hl, hq⟩ := Option.map_eq_some_iff.1 hq
    subst hq
    obtain ⟨h1, h2⟩ := yf_build h hop hl
    exact ⟨h1, h2, by simp⟩
  · cases hq

theorem leafOf_ok (h : Den w0 st env gs a w) {x : Operand} {y : Leaf} (hy : leafOf st x = some y) : a.eval x = y.den env gs ∧ y.OK env gs := by
  unfold leafOf at hy
  split at hy
  · rename_i z hz
    cases hy
    exact h.opd hz (by simp)
  · cases hy
theorem leafs_ok (h : Den w0 st env gs a w) : ∀ (l : List Operand) (ys : List Leaf), l.mapM (leafOf st) = some ys → l.map a.eval = ys.map (Leaf.den env gs) ∧ ∀ y ∈ ys, y.OK env gs
  | [], ys, hm => by simp at hm; subst hm; simp
  | x :: l, ys, hm => by
    simp only [List.mapM_cons, Option.bind_eq_bind, Option.pure_def, Option.bind_eq_some_iff] at hm
    obtain ⟨c, hc, r, hr, he⟩ := hm
    cases he
    obtain ⟨h1, h2⟩ := leafs_ok h l r hr
    obtain ⟨e, ok⟩ := leafOf_ok h hc
    refine ⟨by simp [h1, e], ?_⟩
    intro y hy
    rcases List.mem_cons.1 hy with rfl | hy
    · exact ok
    · exact h2 y hy
theorem ptrOf_ok (h : Den w0 st env gs a w) {x : Operand} {c : Nat × Nat} (hc : ptrOf st x = some c) : a.eval x = .pointer (some ⟨gs.getD c.1 0, c.2, none⟩) ∧ c.1 < gs.length := by
  unfold ptrOf at hc
  split at hc
  · rename_i b o hx
    cases hc
    exact h.opd hx (by simp)
  · cases hc

theorem gdS_ok (h : Den w0 st env gs a w) {o : Oper} {b : Bool} (hg : gdS st ops o = some b) : Region.wanted o (yielded ops a.tmps) = b := by
  unfold gdS at hg
  unfold Region.wanted
  split at hg
  · rename_i h0; cases hg; rw [h0]
  · rename_i j want h0
    rw [h0]
    simp only
    split at hg
    · rename_i t ht
      have get : ∀ x : SV, st.slots[t]? = some x → x ≠ .any → a.tmps[t]? = some (x.den env gs) := by
        intro x hx hxa
        have hlt : t < a.tmps.size := by rw [h.sl]; exact (List.getElem?_eq_some_iff.1 hx).1
        have := (h.slots t x hx hxa).1
        rw [← this]; simp [hlt]
      split at hg
      · rename_i bb hx
        cases hg
        have := get _ hx (by simp)
        simp only [yielded, ht, Option.bind_some, this, SV.den, Leaf.den, Atom.den]
        cases bb <;> cases want <;> rfl
      · rename_i hx
        cases hg
        have := get _ hx (by simp)
        simp only [yielded, ht, Option.bind_some, this, SV.den]
        rfl
      · cases hg
    · cases hg

theorem evOf_ok (h : Den w0 st env gs a w) (op : Op) : ∀ x ∈ evOf st op, a.eval (.tmp x.1) = x.2.den env gs := by
  intro x hx
  unfold evOf at hx
  obtain ⟨t, _, ht⟩ := List.mem_filterMap.1 hx
  have e : opd st (.tmp t) = st.slots.getD t .any := rfl
  split at ht
  · cases ht
  · rename_i v hv
    cases ht
    rw [← e]
    exact (h.opd rfl (by rw [e]; exact hv)).1

theorem blOf_mem (h : Den w0 st env gs a w) (b : Bool) : Mm w0 w env gs (blOf st b) := by
  unfold blOf
  cases b with
  | true => exact ⟨h.mem, h.rws.own⟩
  | false => exact ⟨by have e : bsD env gs (if false = true then (st.blocks, st.rows) else ([], [])).1 = [] := by simp [bsD]
                       rw [e]; exact ⟨h.mem.below, by simp, List.Pairwise.nil⟩, by intro r hr; cases hr⟩

theorem idxS_ok {o : Oper} {x : Atom} {f : Tree → Tree} {t : Tree} (hi : idxS P st o.op = some (x, f)) (h : Den w0 st env gs a w) (hT : TWp P w0 R (f t) L env gs) : YF P o a w (x.den env gs) ∧ x.OK env gs ∧ TWp P w0 R t L env gs := by
  unfold idxS at hi
  split at hi
  · rename_i ty p i hop
    have getk : ∀ {k : Nat} {v : Value}, env[k]? = some v → env.getD k undef = v := fun {k v} hk => by simp [List.getD, hk]
    split at hi
    · rename_i b d k hx hk
      obtain ⟨fa, hfa, hi⟩ := Option.bind_eq_some_iff.1 hi
      obtain ⟨n, hn, hi⟩ := Option.map_eq_some_iff.1 hi
      cases hi
      obtain ⟨kd, m, hm, h0, h1, hT'⟩ := hT
      have ep := (h.opd hx (by simp))
      have ei := (h.opd hk (by simp))
      simp only [SV.den, Leaf.den, Atom.den, getk hm] at ep ei
      refine ⟨fun W hW => ?_, ⟨ep.2, (List.getElem?_eq_some_iff.1 hm).1⟩, hT'⟩
      unfold tyArr at hfa
      split at hfa
      · rename_i c el' hu
        cases hfa
        unfold execOp
        simp only [hop, ep.1, ei.1, Instr.indexAt, asIntOf, Sem.run_bind, run_underlying hu, Result.andThen_ok, Instr.sureAddr, Sem.run_pure, tyN_run hn, h0, h1, and_self, if_true, addr_add, Atom.den, getk hm, intN]
      · cases hfa
    · rename_i b d len cap k hx hk
      obtain ⟨el, hfa, hi⟩ := Option.bind_eq_some_iff.1 hi
      obtain ⟨n, hn, hi⟩ := Option.map_eq_some_iff.1 hi
      cases hi
      obtain ⟨kd, m, hm, h0, h1, hT'⟩ := hT
      have ep := (h.opd hx (by simp))
      have ei := (h.opd hk (by simp))
      simp only [SV.den, Leaf.den, Atom.den, getk hm] at ep ei
      refine ⟨fun W hW => ?_, ⟨ep.2, (List.getElem?_eq_some_iff.1 hm).1⟩, hT'⟩
      unfold tySlc at hfa
      split at hfa
      · rename_i el' hu
        cases hfa
        unfold execOp
        simp only [hop, ep.1, ei.1, Instr.indexAt, asIntOf, Sem.run_bind, run_underlying hu, Result.andThen_ok, Sem.run_pure, tyN_run hn, h0, h1, and_self, if_true, addr_add, Atom.den, getk hm, intN]
      · cases hfa
    · rename_i b d j k hx hk
      obtain ⟨el, hfa, hi⟩ := Option.bind_eq_some_iff.1 hi
      obtain ⟨n, hn, hi⟩ := Option.map_eq_some_iff.1 hi
      cases hi
      obtain ⟨kd, m, hm, h0, h1, hT'⟩ := hT
      have ep := (h.opd hx (by simp))
      have ei := (h.opd hk (by simp))
      simp only [SV.den, Leaf.den, Atom.den, getk hm] at ep ei
      refine ⟨fun W hW => ?_, ⟨ep.2.1, (List.getElem?_eq_some_iff.1 hm).1⟩, hT'⟩
      unfold tySlc at hfa
      split at hfa
      · rename_i el' hu
        cases hfa
        generalize env.getD j undef = sv at *
        cases sv with
        | slice ad l c =>
          simp only [lenN] at h1
          simp only at ep
          unfold execOp
          simp only [hop, ep.1, ei.1, Instr.indexAt, asIntOf, Sem.run_bind, run_underlying hu, Result.andThen_ok, Sem.run_pure, tyN_run hn, h0, h1, and_self, if_true, addr_add, Atom.den, getk hm, intN]
        | _ => simp only [lenN] at h1; omega
      · cases hfa
    · cases hi
  · cases hi

theorem flat_takeWhile {env : List Value} {gs : List Nat} (q : Seg → Bool) (l : List Seg) : flat env gs (l.takeWhile q) <+: flat env gs l := by
  obtain ⟨r, hr⟩ := List.takeWhile_prefix (l := l) q
  refine ⟨flat env gs r, ?_⟩
  rw [← flat_append, hr]

theorem ldiS_ok {o : Oper} {x : SV} {f : Tree → Tree} {t : Tree} (hi : ldiS P st o.op = some (x, f)) (h : Den w0 st env gs a w) (hT : TWp P w0 R (f t) L env gs) :
    ∃ v, YF P o a w (x.den (env ++ [v]) gs) ∧ x.OK (env ++ [v]) gs ∧ TWp P w0 R t L (env ++ [v]) gs := by
  unfold ldiS at hi
  split at hi
  · rename_i ty p hop
    split at hi
    · rename_i b off k sc hx
      obtain ⟨blk, hb, hi⟩ := Option.bind_eq_some_iff.1 hi
      obtain ⟨ag, hag, hi⟩ := Option.bind_eq_some_iff.1 hi
      obtain ⟨n, hn, hi⟩ := Option.bind_eq_some_iff.1 hi
      have ep := (h.opd hx (by simp)).1
      simp only [SV.den, Leaf.den, Atom.den] at ep
      have hl : ∀ v : Value, (env ++ [v]).getD st.n undef = v := fun v => by rw [← h.n]; simp [List.getD]
      have hg : ∀ v : Value, (env ++ [v])[st.n]? = some v := fun v => by rw [← h.n]; simp
      split at hi
      · rename_i hagt
        split at hi
        · cases hi
        · rename_i h0
          cases hi
          have hne : n ≠ 0 := by simpa using h0
          obtain ⟨h1, hT'⟩ := (show _ ∧ _ from hT)
          rw [catS_flat] at h1 hT'
          have hpre := flat_takeWhile (env := env) (gs := gs) Seg.clean blk.1
          have hok := flat_ones (fun s hs => h.segs hb s ((List.takeWhile_prefix Seg.clean).sublist.mem hs)) (fun s hs => List.all_eq_true.1 List.all_takeWhile s hs)
          generalize flat env gs (blk.1.takeWhile Seg.clean) = fl at *
          obtain ⟨tl, htl⟩ := hpre
          have hcut : (fl.drop (off + intN (env.getD k undef) * sc)).take n = ((flat env gs blk.1).drop (off + intN (env.getD k undef) * sc)).take n := by
            rw [← htl, List.drop_append_of_le_length (by omega), List.take_append_of_le_length (by rw [List.length_drop]; omega)]
          have h1' : off + intN (env.getD k undef) * sc + n ≤ (flat env gs blk.1).length := by rw [← htl, List.length_append]; omega
          refine ⟨_, fun W hW => ?_, ?_, hT'⟩
          · have hO := h.own hb hW
            unfold execOp
            simp only [hop, ep, Instr.loadAt, Instr.sureAddr, Sem.run_bind, Sem.run_pure, Result.andThen_ok, run_loadVar_own W _ _ _ ty _ n hO (tyAgg_size (hagt ▸ hag) hn) h1', ← hcut]
            simp only [SV.den, Leaf.den, catS, Seg.den, cellsAt, hl, Value.cells]
          · intro s hs
            simp only [List.mem_singleton] at hs; subst hs
            exact ⟨_, hg _, by simp only [List.length_take, List.length_drop]; omega, fun x hx => hok x (List.mem_of_mem_drop (List.mem_of_mem_take hx))⟩
      · rename_i hagf
        cases hi
        obtain ⟨v, h1, hT'⟩ := (show ∃ v, _ ∧ _ from hT)
        rw [catS_flat] at h1
        have hpre := flat_takeWhile (env := env) (gs := gs) Seg.clean blk.1
        have hok := flat_ones (fun s hs => h.segs hb s ((List.takeWhile_prefix Seg.clean).sublist.mem hs)) (fun s hs => List.all_eq_true.1 List.all_takeWhile s hs) v (List.mem_of_getElem? h1)
        have h1' : (flat env gs blk.1)[off + intN (env.getD k undef) * sc]? = some v := by
          obtain ⟨tl, htl⟩ := hpre
          rw [← htl, List.getElem?_append_left (List.getElem?_eq_some_iff.1 h1).1]; exact h1
        refine ⟨v, fun W hW => ?_, ?_, hT'⟩
        · have hO := h.own hb hW
          have := hO.cell_of _ h1'
          have hf : ag = false := by simpa using hagf
          unfold execOp
          simp only [hop, ep, Instr.loadAt, Instr.sureAddr, Sem.run_bind, Sem.run_pure, Result.andThen_ok, loadVar, tyAgg_run (hf ▸ hag), Bool.false_eq_true, if_false, run_load, this, SV.den, Leaf.den, Atom.den, hl]
        · refine ⟨by rw [← h.n]; simp, ?_⟩
          rw [hl]
          exact hok
    · cases hi
  · cases hi

/-- what reads: its value, in every world to come, and how it goes on -/
theorem quietC_ok {o : Oper} {k : Sym → Option Tree} {t : Tree} (hq : quietC P orc st o k = some t) (h : Den w0 st env gs a w) (hT : TWp P w0 R t L env gs) :
    ∃ v st' t' env', YF P o a w v ∧ k st' = some t' ∧ Kin st st' ∧ env <+: env' ∧ Den w0 st' env' gs (a.put o.dst v) w ∧ TWp P w0 R t' L env' gs := by
  unfold quietC at hq
  split at hq
  · rename_i v hv
    obtain ⟨h1, h2, h3⟩ := qval_ok hv h
    refine ⟨_, _, t, env, h1, hq, ?_, List.prefix_refl _, h.put o.dst (fun _ => ⟨rfl, h2⟩), hT⟩
    cases o.dst <;> exact ⟨rfl, rfl⟩
  split at hq
  · rename_i x f hx
    obtain ⟨t1, hk, rfl⟩ := Option.map_eq_some_iff.1 hq
    obtain ⟨h1, h2, h3⟩ := idxS_ok hx h hT
    refine ⟨_, _, t1, env, h1, hk, ?_, List.prefix_refl _, h.put o.dst (v := .leaf (.atom x)) (fun _ => ⟨rfl, h2⟩), h3⟩
    cases o.dst <;> exact ⟨rfl, rfl⟩
  split at hq
  · rename_i x f hx
    obtain ⟨t1, hk, rfl⟩ := Option.map_eq_some_iff.1 hq
    obtain ⟨v, h1, h2, h3⟩ := ldiS_ok hx h hT
    refine ⟨_, _, t1, env ++ [v], h1, hk, ?_, List.prefix_append _ _, (h.grow [v] rfl).put o.dst (fun _ => ⟨rfl, h2⟩), h3⟩
    cases o.dst <;> exact ⟨rfl, rfl⟩
  · obtain ⟨an, _, hq⟩ := Option.bind_eq_some_iff.1 hq
    have fin : ∀ (s : Spec) (t1 : Tree), calc1 st o s k = some t1 → Yields1 P w0 o.op o.type (evOf st o.op) (blOf st ((evOf st o.op).any (·.2.looks st))) env gs (s.r.shift st.n st.blocks.length) s.n (TWp P w0 R t1 L) →
        ∃ v st' t' env', YF P o a w v ∧ k st' = some t' ∧ Kin st st' ∧ env <+: env' ∧ Den w0 st' env' gs (a.put o.dst v) w ∧ TWp P w0 R t' L env' gs := by
      intro s t1 hc hy
      obtain ⟨vs, hn, ok, hex, hT'⟩ := hy
      refine ⟨(s.r.shift st.n st.blocks.length).den (env ++ vs) gs, _, t1, env ++ vs, fun W hW => hex o a W rfl rfl (evOf_ok h o.op) (blOf_mem (h.fut hW) _), hc, ?_, List.prefix_append _ _, (h.grow vs hn).put o.dst (fun _ => ⟨rfl, ok⟩), hT'⟩
      cases o.dst <;> exact ⟨rfl, rfl⟩
    cases an with
    | one s =>
      obtain ⟨t1, hc, rfl⟩ := Option.map_eq_some_iff.1 hq
      exact fin s t1 hc hT
    | two s s' =>
      obtain ⟨t1, hc, hq⟩ := Option.bind_eq_some_iff.1 hq
      obtain ⟨t2, hc2, rfl⟩ := Option.map_eq_some_iff.1 hq
      rcases hT with hT | hT
      · exact fin s t1 hc hT
      · exact fin s' t2 hc2 hT

theorem canEnter_ok {f : FuncId} (h : canEnter P f = true) (args : Array Value) (W : World) : (callFunc f args).run P W = .ok (.enter f args) W := by
  unfold canEnter at h
  split at h
  · rename_i fn hf
    simp only [Bool.and_eq_true, Bool.not_eq_true'] at h
    have hb : fn.body.isNone = false := by cases hb : fn.body <;> simp_all
    simp only [callFunc, Sem.run_bind, run_program, Result.andThen_ok, hf, h.2, hb, Bool.false_eq_true, if_false, Sem.run_pure]
  · cases h

theorem calleeS_ok (h : Den w0 st env gs a w) {o : Oper} {ga : FuncId × List Leaf} (hc : calleeS P st o = some ga) (W : World) :
    (execOp a.eval o).run P W = .ok (.enter ga.1 (ga.2.map (Leaf.den env gs)).toArray) W := by
  unfold calleeS at hc
  split at hc
  · rename_i c hop
    split at hc
    · rename_i f hf
      split at hc
      · rename_i g caps hx
        split at hc
        · rename_i hen
          obtain ⟨args, ha, rfl⟩ := Option.map_eq_some_iff.1 hc
          have e := (h.opd hx (by simp)).1
          simp only [SV.den, Leaf.den, Atom.den] at e
          obtain ⟨h1, _⟩ := leafs_ok h _ _ ha
          have ea : c.args.map a.eval = (args.map (Leaf.den env gs)).toArray := by apply Array.ext'; simpa using h1
          unfold execOp
          simp only [hop, resolve, hf, e, ea, Deferred.ofValue, Sem.run_bind, Sem.run_pure, Result.andThen_ok, invoke]
          have e2 : (#[] ++ (args.map (Leaf.den env gs)).toArray ++ (caps.map fun c => Value.pointer (some ⟨gs.getD c.1 0, c.2, none⟩)).toArray) = ((args ++ caps.map fun c => Leaf.atom (.ptr c.1 c.2)).map (Leaf.den env gs)).toArray := by
            apply Array.ext'; simp [Leaf.den, Atom.den]
          rw [e2]
          exact canEnter_ok hen _ _
        · cases hc
      · cases hc
    · cases hc
  · cases hc

/-- a call: from whatever world to come -/
theorem callC_ok {o : Oper} {k : Sym → Option Tree} {t : Tree} (hq : callC P orc st o k = some t) (h : Den w0 st env gs a w) (hT : TWp P w0 R t L env gs) {W : World} (hW : Fut w W) :
    o.wp P a W (fun a' w' => Fut W w' ∧ ∃ st' t' env' gs2, k st' = some t' ∧ Kin st st' ∧ env <+: env' ∧ (∀ g ∈ gs2, W.heap.size ≤ g ∧ g < w'.heap.size) ∧ Den w0 st' env' (gs ++ gs2) a' w' ∧ TWp P w0 R t' L env' (gs ++ gs2)) Q := by
  unfold callC at hq
  obtain ⟨ga, hga, hq⟩ := Option.bind_eq_some_iff.1 hq
  obtain ⟨an, _, hq⟩ := Option.bind_eq_some_iff.1 hq
  have hd := h.fut hW
  unfold Oper.wp
  rw [calleeS_ok h hga W, Oper.upon_enter]
  have hst := blOf_mem hd (ga.2.any (Leaf.looks st))
  have fin : ∀ (s : Spec) (t1 : Tree), call1 st o s k = some t1 → ∀ e w', Gives P ga.1 (ga.2.map (Leaf.den env gs)) W env gs (s.r.shift st.n st.blocks.length) s.n (shiftB st.n st.blocks.length s.nb) (TWp P w0 R t1 L) e w' →
      (match e, w' with
        | .returned v, w'' => (fun a' w' => Fut W w' ∧ ∃ st' t' env' gs2, k st' = some t' ∧ Kin st st' ∧ env <+: env' ∧ (∀ g ∈ gs2, W.heap.size ≤ g ∧ g < w'.heap.size) ∧ Den w0 st' env' (gs ++ gs2) a' w' ∧ TWp P w0 R t' L env' (gs ++ gs2)) (a.put o.dst v) w''
        | .panicked chain, w'' => Q (.panic chain) a w''
        | .outgrown, _ => LetsOut Q) := by
    intro s t1 hc e w' hg
    obtain ⟨vs, gs2, hn, hl, rfl, ok, okb, hF, hNB, hT'⟩ := hg
    refine ⟨hF, _, t1, env ++ vs, gs2, hc, ?_, List.prefix_append _ _, ?_, ?_, hT'⟩
    · cases o.dst <;> exact ⟨rfl, rfl⟩
    · intro g hg
      obtain ⟨i, hi⟩ := List.mem_iff_getElem?.1 hg
      have hlt : i < (shiftB st.n st.blocks.length s.nb).length := by rw [← hl]; exact (List.getElem?_eq_some_iff.1 hi).1
      have hm : (g, catS (env ++ vs) (gs ++ gs2) (shiftB st.n st.blocks.length s.nb)[i].1, (shiftB st.n st.blocks.length s.nb)[i].2) ∈ bsA (env ++ vs) (gs ++ gs2) gs2 (shiftB st.n st.blocks.length s.nb) := by
        refine List.mem_of_getElem? (i := i) ?_
        unfold bsA
        rw [List.getElem?_zipWith, hi, List.getElem?_eq_getElem hlt]
      have := hNB.1 _ hm
      exact ⟨this.1, this.2.lt⟩
    · refine Den.put ?_ o.dst (fun _ => ⟨rfl, ok⟩)
      have hd' := (hd.grow vs hn).fut hF
      have far : ∀ g, g < W.heap.size → g ∉ gs2 := by
        intro g h1 hg2
        obtain ⟨i, hi⟩ := List.mem_iff_getElem?.1 hg2
        have hlt : i < (shiftB st.n st.blocks.length s.nb).length := by rw [← hl]; exact (List.getElem?_eq_some_iff.1 hi).1
        have hm : (g, catS (env ++ vs) (gs ++ gs2) (shiftB st.n st.blocks.length s.nb)[i].1, (shiftB st.n st.blocks.length s.nb)[i].2) ∈ bsA (env ++ vs) (gs ++ gs2) gs2 (shiftB st.n st.blocks.length s.nb) := by
          refine List.mem_of_getElem? (i := i) ?_
          unfold bsA
          rw [List.getElem?_zipWith, hi, List.getElem?_eq_getElem hlt]
        have := (hNB.1 _ hm).1
        simp only at this
        omega
      refine Den.blk hd' gs2 _ hl okb (fun x hx => ⟨?_, (hNB.1 x hx).2⟩) hNB.2 (fun g hg => far g (hd.gs_lt g hg).2) (fun r hr v g hv hg => far g ?_)
      · have := (hNB.1 x hx).1; have := hd.mem.below.size; omega
      · have hr' := hd.rws.own r hr
        exact (hr'.lt (hr'.back (List.prefix_append _ _) hv) hg).2
  cases an with
  | one s =>
    obtain ⟨t1, hc, rfl⟩ := Option.map_eq_some_iff.1 hq
    exact Calls.mono (hT W hst) (fin s t1 hc)
  | two s s' =>
    obtain ⟨t1, hc, hq⟩ := Option.bind_eq_some_iff.1 hq
    obtain ⟨t2, hc2, rfl⟩ := Option.map_eq_some_iff.1 hq
    refine Calls.mono (hT W hst) fun e w' he => ?_
    rcases he with he | he
    · exact fin s t1 hc e w' he
    · exact fin s' t2 hc2 e w' he

/-- what makes a block -/
theorem mkS_ok {o : Oper} {m : List Seg × TypeId × Option Nat} (hm : mkS P st o.op = some m) (h : Den w0 st env gs a w) : Makes P o a (flat env gs m.1) m.2.1 m.2.2 ∧ ∀ s ∈ m.1, s.OK env gs := by
  unfold mkS at hm
  split at hm
  · rename_i ty hop
    obtain ⟨z, hz, rfl⟩ := Option.map_eq_some_iff.1 hm
    obtain ⟨v, hv, hvc, hvo⟩ := zeroS_ok hz
    refine ⟨fun W => ?_, fun s hs => by simp only [List.mem_singleton] at hs; subst hs; exact hvo⟩
    have e : flat env gs [Seg.lit z] = z := by simp [flat, Seg.den]
    unfold execOp
    simp only [hop, Instr.alloc, Sem.run_bind, tyZero_run hv, Result.andThen_ok, newVar, newRow, hvc, e]
    rfl
  · rename_i ty x hop
    obtain ⟨y, hy, rfl⟩ := Option.map_eq_some_iff.1 hm
    obtain ⟨e, ok⟩ := leafOf_ok h hy
    obtain ⟨s1, s2⟩ := Leaf.segs_ok ok
    refine ⟨fun W => ?_, s1⟩
    unfold execOp
    simp only [hop, e, Instr.box, newVar, newRow, s2]
    rfl
  · rename_i ty len parts hop
    obtain ⟨el, hel, hm⟩ := Option.bind_eq_some_iff.1 hm
    obtain ⟨n, hn, hm⟩ := Option.bind_eq_some_iff.1 hm
    obtain ⟨z, hz, hm⟩ := Option.bind_eq_some_iff.1 hm
    split at hm
    · cases hm
    · rename_i hc
      simp only [Bool.or_eq_true, beq_iff_eq, bne_iff_ne, ne_eq, decide_eq_true_eq, not_or, Decidable.not_not] at hc
      obtain ⟨⟨c1, c2⟩, c3⟩ := hc
      obtain ⟨pv, hpv, hm⟩ := Option.bind_eq_some_iff.1 hm
      obtain ⟨l, hl, rfl⟩ := Option.map_eq_some_iff.1 hm
      obtain ⟨v, hv, hvc, hvo⟩ := zeroS_ok hz
      obtain ⟨p1, p2⟩ := leavesOf_ok h _ _ hpv
      have hzo : ∀ s ∈ [Seg.lit (List.replicate len z).flatten], s.OK env gs := by
        intro s hs; simp only [List.mem_singleton] at hs; subst hs
        intro x hx
        obtain ⟨y, hy, hx⟩ := List.mem_flatten.1 hx
        rw [List.eq_of_mem_replicate hy] at hx
        exact hvo x hx
      obtain ⟨f1, f2⟩ := fillS_ok pv _ l hl hzo p2
      have hfl : flat env gs [Seg.lit (List.replicate len z).flatten] = (List.replicate len z).flatten := by simp [flat, Seg.den]
      rw [hfl] at f1
      refine ⟨fun W => ?_, f2⟩
      have e : (parts.map fun (x : Nat × Operand) => (x.1, a.eval x.2)).toList = pv.map (fun x => (x.1, x.2.den env gs)) := by simpa using p1
      have hz' : ((Array.range (len * n)).map (v.cells[· % v.cells.size]!)) = (List.replicate len z).flatten.toArray := by
        apply Array.ext'
        rw [hvc]
        simp only [Array.toList_map, Array.toList_range, List.size_toArray, c2]
        apply List.ext_getElem?
        intro i
        have rep : ∀ (m i : Nat), (List.replicate m z).flatten[i]? = if i < m * n then z[i % n]? else none := by
          intro m
          induction m with
          | zero => intro i; simp
          | succ m ih =>
            intro i
            rw [List.replicate_succ, List.flatten_cons, List.getElem?_append]
            rw [c2]
            split
            · rename_i hi
              rw [if_pos (by rw [Nat.succ_mul]; omega), Nat.mod_eq_of_lt hi]
            · rename_i hi
              rw [ih, show i % n = (i - n) % n from (Nat.mod_eq_sub_mod (by omega))]
              by_cases hh : i - n < m * n
              · rw [if_pos hh, if_pos (by rw [Nat.succ_mul]; omega)]
              · rw [if_neg hh, if_neg (by rw [Nat.succ_mul]; omega)]
        rw [rep]
        simp only [List.getElem?_map]
        by_cases hi : i < len * n
        · have hn0 : 0 < n := by rcases Nat.eq_zero_or_pos n with h0 | h0; · simp [h0] at hi
                                 · exact h0
          have hlt : i % n < z.length := by rw [c2]; exact Nat.mod_lt _ hn0
          rw [if_pos hi, List.getElem?_eq_getElem hlt]
          simp [hi, hlt]
        · rw [if_neg hi]
          simp; omega
      unfold tySlc at hel
      split at hel
      · rename_i el' hu
        cases hel
        unfold execOp
        simp only [hop]
        unfold Instr.buildSlice
        have c3' : ¬ (len * n > 2 ^ 24) := c3
        simp only [Sem.run_bind, run_underlying hu, Result.andThen_ok, tyN_run hn, if_neg c3', if_neg c1, tyZero_run hv, Sem.run_pure, hz', e, f1, newRow]
        rfl
      · cases hel
  · cases hm

theorem makeC_ok {o : Oper} {k : Sym → Option Tree} {t : Tree} (hq : makeC P st o k = some t) (h : Den w0 st env gs a w) (hT : TWp P w0 R t L env gs) :
    ∃ vs ty kd, Makes P o a vs ty kd ∧ ∀ W, Fut w W → ∀ g, w0.heap.size ≤ g → g ∉ gs → (∀ r ∈ st.rows, ∀ v, env[r.kv]? = some v → v.ownBlock ≠ some g) → Own W g vs ty →
      ∃ st' t', k st' = some t' ∧ Kin st st' ∧ Den w0 st' env (gs ++ [g]) (a.put o.dst (madeV kd g)) W ∧ TWp P w0 R t' L env (gs ++ [g]) := by
  unfold makeC at hq
  obtain ⟨m, hm, hq⟩ := Option.bind_eq_some_iff.1 hq
  obtain ⟨t1, hk, rfl⟩ := Option.map_eq_some_iff.1 hq
  obtain ⟨h1, h2⟩ := mkS_ok hm h
  refine ⟨_, _, _, h1, fun W hW g hg hn hrow hO => ⟨_, t1, hk, ?_, ?_, hT g⟩⟩
  · cases o.dst <;> exact ⟨rfl, rfl⟩
  · have hp : env <+: env := List.prefix_refl _
    have hg' : gs <+: gs ++ [g] := List.prefix_append _ _
    refine Den.put ?_ o.dst (fun _ => ?_)
    · refine Den.blk (h.fut hW) [g] [(m.1, m.2.1)] rfl ?_ ?_ ?_ ?_ (fun r hr v q hv hq hx => by
        simp only [List.mem_singleton] at hx; subst hx
        exact hrow r hr v hv hq)
      · intro b hb s hs
        simp only [List.mem_singleton] at hb; subst hb
        exact (Seg.pre hp hg' (h2 s hs)).1
      · intro x hx
        simp only [bsA, List.zipWith_cons_cons, List.zipWith_nil_left, List.mem_singleton] at hx
        subst hx
        refine ⟨hg, ?_⟩
        simp only [catS_flat, (flat_pre hp hg' h2).2]
        exact hO
      · simp [bsA]
      · intro x hx hx'
        simp only [List.mem_singleton] at hx'; subst hx'
        exact hn hx
    · have e : (gs ++ [g]).getD st.blocks.length 0 = g := by rw [← h.gl]; simp [List.getD]
      have hl : st.blocks.length < (gs ++ [g]).length := by rw [← h.gl]; simp
      cases hk2 : m.2.2 with
      | none => exact ⟨by simp only [madeV, mkV, SV.den, Leaf.den, Atom.den, e], hl⟩
      | some c => exact ⟨by simp only [madeV, mkV, SV.den, Leaf.den, Atom.den, e], hl⟩

theorem storeC_ok {o : Oper} {k : Sym → Option Tree} {t : Tree} (hq : storeC P st o k = some t) (h : Den w0 st env gs a w) (hT : TWp P w0 R t L env gs) {K : Act → World → Prop}
    (hK : ∀ st' t' env' a' w', w.heap.size ≤ w'.heap.size → k st' = some t' → Kin st st' → env <+: env' → Den w0 st' env' gs a' w' → TWp P w0 R t' L env' gs → K a' w') : o.wp P a w K Q := by
  unfold storeC at hq
  split at hq
  · rename_i ty p x hop
    -- a block turned in place
    have turn : ∀ (env2 : List Value) (st2 : Sym) (b : Nat) (blk : Blk) (l : List Seg), Den w0 st2 env2 gs a w → st2.blocks[b]? = some blk → (∀ s ∈ l, s.OK env2 gs) →
        Den w0 { st2 with blocks := st2.blocks.set b (l, blk.2) } env2 gs a (w.setRow (gs.getD b 0) (flat env2 gs l).toArray) := by
      intro env2 st2 b blk l hd hb q3
      have hO := hd.own hb (Fut.refl w)
      have hget := bsD_get (env := env2) hd.gl hb
      have hlb : b < st2.blocks.length := (List.getElem?_eq_some_iff.1 hb).1
      have hlt : b < gs.length := by rw [hd.gl]; exact hlb
      have hwr : Wrote (gs.getD b 0) w (w.setRow (gs.getD b 0) (flat env2 gs l).toArray) := ⟨rfl, rfl, rfl, by simp, fun k hk => Go.setRow_other w _ k _ hk⟩
      have hst := hd.mem.wrote b hget hwr (hO.setRow (flat env2 gs l))
      refine ⟨hd.n, by simp [hd.gl], hd.sl, hd.slots, ?_, ?_, hd.df, hd.rws.turn (by
        have : gs[b]? = some (gs.getD b 0) := by simp [List.getD, List.getElem?_eq_getElem hlt]
        exact List.mem_of_getElem? this) _⟩
      · have e : bsD env2 gs (st2.blocks.set b (l, blk.2)) = (bsD env2 gs st2.blocks).set b (gs.getD b 0, flat env2 gs l, blk.2) := by
          apply List.ext_getElem?
          intro i
          rw [List.getElem?_set]
          unfold bsD
          rw [List.getElem?_zipWith, List.getElem?_set]
          by_cases hi : b = i
          · subst hi
            have hg : gs[b]? = some (gs.getD b 0) := by simp [List.getD, List.getElem?_eq_getElem hlt]
            simp [hg, hlb, hlt, catS_flat]
            exact (Nat.lt_min).2 ⟨hlt, hlb⟩
          · rw [if_neg hi, if_neg hi, List.getElem?_zipWith]
        show St w0 _ (bsD env2 gs (st2.blocks.set b (l, blk.2)))
        rw [e]; exact hst
      · intro b' hb' s hs
        rcases List.mem_or_eq_of_mem_set hb' with hb' | rfl
        · exact hd.bok b' hb' s hs
        · exact q3 s hs
    split at hq
    · rename_i b off j sc hx
      obtain ⟨y, hy, hq⟩ := Option.bind_eq_some_iff.1 hq
      obtain ⟨n, hn, hq⟩ := Option.bind_eq_some_iff.1 hq
      obtain ⟨blk, hb, hq⟩ := Option.bind_eq_some_iff.1 hq
      split at hq
      · rename_i hc
        simp only [Bool.and_eq_true, beq_iff_eq, List.all_eq_true] at hc
        obtain ⟨hcl0, hc⟩ := hc
        have hkc := fun s hs => Seg.known_clean (hc.1 s hs)
        obtain ⟨t1, hk, rfl⟩ := Option.map_eq_some_iff.1 hq
        obtain ⟨h1, hT'⟩ := (show _ ∧ _ from hT)
        simp only [catS_flat] at h1 hT'
        have ep := (h.opd hx (by simp)).1
        simp only [SV.den, Leaf.den, Atom.den] at ep
        obtain ⟨ey, oky⟩ := leafOf_ok h hy
        obtain ⟨s1, s2⟩ := Leaf.segs_ok oky
        have hlen : (flat env gs y.segs).length = n := by rw [flat_len hc.1 s1]; exact hc.2
        have hO := h.own hb (Fut.refl w)
        have hrun := run_storeVar_own (P := P) w (gs.getD b 0) (off + intN (env.getD j undef) * sc) blk.2 ty (flat env gs blk.1) (y.den env gs) (flat env gs y.segs) hO s2 (by rw [hlen]; exact hn) (by omega) (flat_ones s1 hkc)
        unfold Oper.wp execOp
        simp only [hop, ep, ey, Instr.storeAt, Instr.sureAddr, Sem.run_bind, Sem.run_pure, Result.andThen_ok, hrun, Oper.upon_skip]
        rw [hlen]
        generalize hcs : (flat env gs blk.1).take (off + intN (env.getD j undef) * sc) ++ flat env gs y.segs ++ (flat env gs blk.1).drop (off + intN (env.getD j undef) * sc + n) = cs at *
        have hcl : cs.length = (flat env gs blk.1).length := by rw [← hcs]; simp only [List.length_append, List.length_take, List.length_drop]; omega
        have hc1 : ∀ x ∈ cs, x.oneCell' = true := by
          rw [← hcs]
          intro x hx
          rcases List.mem_append.1 hx with hx | hx
          · rcases List.mem_append.1 hx with hx | hx
            · exact flat_ones (h.segs hb) hcl0 x (List.mem_of_mem_take hx)
            · exact flat_ones s1 hkc x hx
          · exact flat_ones (h.segs hb) hcl0 x (List.mem_of_mem_drop hx)
        have hgrow := h.grow [Value.agg cs.toArray] rfl
        have hgk : (env ++ [Value.agg cs.toArray])[st.n]? = some (.agg cs.toArray) := by rw [← h.n]; simp
        have hgd : (env ++ [Value.agg cs.toArray]).getD st.n undef = .agg cs.toArray := by simp [List.getD, hgk]
        have hfl : flat (env ++ [Value.agg cs.toArray]) gs [if blk.1.all Seg.known then Seg.whole st.n (segsLen blk.1) else .rest st.n] = cs := by
          have hcell : cellsAt (env ++ [Value.agg cs.toArray]) st.n = cs := by unfold cellsAt; rw [hgd]; rfl
          split <;> simp [flat, Seg.den, hcell]
        have hok : ∀ s ∈ [if blk.1.all Seg.known then Seg.whole st.n (segsLen blk.1) else .rest st.n], s.OK (env ++ [Value.agg cs.toArray]) gs := by
          intro s hs
          simp only [List.mem_singleton] at hs
          subst hs
          split
          · rename_i hkn
            exact ⟨cs, hgk, by rw [hcl, flat_len (List.all_eq_true.1 hkn) (h.segs hb)], hc1⟩
          · exact ⟨cs.length, cs, hgk, rfl, hc1⟩
        have ht := turn (env ++ [Value.agg cs.toArray]) (st.grow 1) b blk _ hgrow hb hok
        rw [hfl] at ht
        refine hK _ t1 _ _ _ (by simp) hk ?_ (List.prefix_append _ _) (Den.put ht o.dst (fun hh => absurd rfl hh)) hT'
        cases o.dst <;> exact ⟨rfl, rfl⟩
      · cases hq
    obtain ⟨bo, hbo, hq⟩ := Option.bind_eq_some_iff.1 hq
    obtain ⟨y, hy, hq⟩ := Option.bind_eq_some_iff.1 hq
    obtain ⟨n, hn, hq⟩ := Option.bind_eq_some_iff.1 hq
    obtain ⟨blk, hb, hq⟩ := Option.bind_eq_some_iff.1 hq
    split at hq
    · rename_i hc
      simp only [Bool.and_eq_true, beq_iff_eq, List.all_eq_true] at hc
      obtain ⟨l, hl, hq⟩ := Option.bind_eq_some_iff.1 hq
      obtain ⟨ep, hlt⟩ := ptrOf_ok h hbo
      obtain ⟨ey, oky⟩ := leafOf_ok h hy
      obtain ⟨s1, s2⟩ := Leaf.segs_ok oky
      obtain ⟨q1, q2, q3⟩ := putS_ok hl (h.segs hb) s1
      have hlen : (flat env gs y.segs).length = n := by rw [flat_len hc.1 s1]; exact hc.2
      have hO := h.own hb (Fut.refl w)
      have hrun := run_storeVar_own (P := P) w (gs.getD bo.1 0) bo.2 blk.2 ty (flat env gs blk.1) (y.den env gs) (flat env gs y.segs) hO s2 (by rw [hlen]; exact hn) (by omega) (flat_ones s1 (fun s hs => Seg.known_clean (hc.1 s hs)))
      unfold Oper.wp execOp
      simp only [hop, ep, ey, Instr.storeAt, Instr.sureAddr, Sem.run_bind, Sem.run_pure, Result.andThen_ok, hrun, Oper.upon_skip]
      rw [hlen, ← q1]
      refine hK _ t env _ _ (by simp) hq ?_ (List.prefix_refl _) (Den.put (turn env st bo.1 blk l h hb q3) o.dst (fun hh => absurd rfl hh)) hT
      cases o.dst <;> exact ⟨rfl, rfl⟩
    · cases hq
  · cases hq

/-- an append to a slice of the call's own -/
theorem appC_ok {o : Oper} {k : Sym → Option Tree} {t : Tree} (hq : appC P st o k = some t) (h : Den w0 st env gs a w) (hT : TWp P w0 R t L env gs) {K : Act → World → Prop}
    (hK : ∀ st' t' env' a' w', w.heap.size ≤ w'.heap.size → k st' = some t' → st'.dep = st.dep → env <+: env' → Den w0 st' env' gs a' w' → TWp P w0 R t' L env' gs → K a' w') : o.wp P a w K Q := by
  unfold appC at hq
  obtain ⟨m, hm, hq⟩ := Option.bind_eq_some_iff.1 hq
  obtain ⟨t1, hk, rfl⟩ := Option.map_eq_some_iff.1 hq
  unfold appS at hm
  split at hm
  · rename_i args tys hop
    split at hm
    case h_2 => cases hm
    rename_i s x ty ty' ha hty
    obtain rfl : args = #[s, x] := by apply Array.ext'; simpa using ha
    obtain rfl : tys = #[ty, ty'] := by apply Array.ext'; simpa using hty
    split at hm
    · cases hm
    · rename_i htt
      have htt' : ty = ty' := by simpa using htt
      subst htt'
      obtain ⟨el, hel, hm⟩ := Option.bind_eq_some_iff.1 hm
      obtain ⟨i, hi, hm⟩ := Option.bind_eq_some_iff.1 hm
      obtain ⟨z, hz, hm⟩ := Option.bind_eq_some_iff.1 hm
      split at hm
      · cases hm
      · rename_i hc
        simp only [Bool.not_eq_true', Bool.not_eq_false, Bool.and_eq_true, beq_iff_eq, decide_eq_true_eq] at hc
        obtain ⟨⟨c1, c2⟩, c3⟩ := hc
        obtain ⟨new, hnew, hm⟩ := Option.bind_eq_some_iff.1 hm
        have hu : P.underlying ty = some (.slice el) := by
          unfold tySlc at hel
          split at hel
          · rename_i hu; cases hel; exact hu
          · cases hel
        -- what is appended
        obtain ⟨b, d, n, c, blk, hx, hb, hcut⟩ : ∃ b d n c blk, opd st x = .leaf (.atom (.slc b d n c)) ∧ st.blocks[b]? = some blk ∧ cutS blk.1 d (n * i.size) = some new := by
          split at hnew
          · rename_i b d n c hx
            obtain ⟨blk, hb, hcut⟩ := Option.bind_eq_some_iff.1 hnew
            exact ⟨b, d, n, c, blk, hx, hb, hcut⟩
          · cases hnew
        obtain ⟨q1, q2, q3⟩ := cutS_ok (env := env) (gs := gs) blk.1 d (n * i.size) new hcut (h.segs hb)
        have ex := (h.opd hx (by simp)).1
        simp only [SV.den, Leaf.den, Atom.den] at ex
        have hO := h.own hb (Fut.refl w)
        have hnl : (flat env gs new).length = n * i.size := by rw [q1]; simp only [List.length_take, List.length_drop]; omega
        have hcells : ∀ j u, (flat env gs new)[j]? = some u → w.cell? ((⟨gs.getD b 0, d, none⟩ : Addr).add j) = some u := by
          intro j u hj
          rw [addr_add]
          refine hO.cell_of _ ?_
          rw [q1, List.getElem?_take] at hj
          split at hj
          · rwa [List.getElem?_drop] at hj
          · cases hj
        have hones : ∀ u ∈ flat env gs new, u.oneCell' = true := flat_ones (fun s hs => (q3 s hs).1) (fun s hs => Seg.known_clean (q3 s hs).2)
        -- the row that it is appended to
        obtain ⟨v, cs, nn, hs, hown, hfar, hoth, hlen, hnext⟩ : ∃ v cs nn, a.eval s = v ∧ w.ownsRow w0.heap.size el i.size v nn cs ∧ (∀ g, v.ownBlock = some g → g ∉ gs) ∧
            (∀ r ∈ (match m.1 with | some r => st.rows.filter (fun s => s != r) | none => st.rows), ∀ u, env[r.kv]? = some u → u.ownBlock = none ∨ u.ownBlock ≠ v.ownBlock) ∧
            (cs ++ flat env gs new).length ≤ 1000000 ∧ (∀ u : Value, u.oneCell' = true → TWp P w0 R t1 L (env ++ [u, .agg (cs ++ flat env gs new).toArray]) gs) ∧ (∀ x ∈ cs, x.oneCell' = true) ∧ m.2.1 = new ∧ m.2.2.1 = el ∧ m.2.2.2 = i.size := by
          obtain ⟨t1', t2'⟩ := (show _ ∧ _ from hT)
          split at hm
          · rename_i hsl
            cases hm
            have es := (h.opd hsl (by simp)).1
            simp only [SV.den, Leaf.den, Atom.den] at es
            simp only [catS_flat, Option.map_none] at t1' t2'
            refine ⟨_, [], 0, es, World.ownsRow_nil _ _ _ _, fun g hg => by simp [Value.ownBlock] at hg, fun r hr u hu => ?_, t1', t2', by simp, rfl, rfl, rfl⟩
            cases hb : u.ownBlock with
            | none => exact .inl rfl
            | some g => exact .inr (by simp [Value.ownBlock])
          · rename_i kv hsl
            obtain ⟨r, hr, hm⟩ := Option.bind_eq_some_iff.1 hm
            split at hm
            · rename_i hrt
              simp only [Bool.and_eq_true, beq_iff_eq] at hrt
              cases hm
              have hrm := List.mem_of_find?_eq_some hr
              have hrk : r.kv = kv := by have := List.find?_some hr; simpa using this
              subst hrk
              obtain ⟨v, cs, nn, h1, h2, h3, h4⟩ := h.rws.own r hrm
              have es := (h.opd hsl (by simp)).1
              simp only [SV.den, Leaf.den, Atom.den] at es
              have eg : env.getD r.kv undef = v := by simp [List.getD, h1]
              rw [eg] at es
              have ec : cellsAt env r.kc = cs := by simp [cellsAt, List.getD, h2, Value.cells]
              simp only [catS_flat, Option.map_some, ec] at t1' t2'
              refine ⟨v, cs, nn, es, by rw [← hrt.1, ← hrt.2]; exact h4, fun g hg => h.rws.gs r hrm v g h1 hg, fun s hs u hu => ?_, t1', t2', h3, rfl, rfl, rfl⟩
              have hs' := List.mem_filter.1 hs
              have hne : s ≠ r := by simpa using hs'.2
              cases hb : u.ownBlock with
              | none => exact .inl rfl
              | some g =>
                refine .inr ?_
                have sym : ∀ (l : List RowS), l.Pairwise (fun r s => ∀ v u g, env[r.kv]? = some v → env[s.kv]? = some u → v.ownBlock = some g → u.ownBlock ≠ some g) → r ∈ l → s ∈ l → v.ownBlock ≠ some g := by
                  intro l
                  induction l with
                  | nil => intro _ hr; cases hr
                  | cons y l ih =>
                    intro hp hr hs
                    obtain ⟨p1, p2⟩ := List.pairwise_cons.1 hp
                    rcases List.mem_cons.1 hr with rfl | hr2
                    · rcases List.mem_cons.1 hs with rfl | hs2
                      · exact absurd rfl hne
                      · exact fun hv => p1 s hs2 v u g h1 hu hv hb
                    · rcases List.mem_cons.1 hs with rfl | hs2
                      · exact p1 r hr2 u v g hu h1 hb
                      · exact ih p2 hr2 hs2
                exact fun e => sym _ h.rws.pw hrm hs'.1 e.symm
            · cases hm
          · cases hm
        obtain ⟨hnext, hcs1, hm1, hm2, hm3⟩ := hnext
        have hle : nn + n ≤ 1000000 := by
          have e1 := hown.1
          rw [List.length_append, e1, hnl, ← Nat.add_mul] at hlen
          exact Nat.le_trans (Nat.le_mul_of_pos_right _ c2) hlen
        obtain ⟨v', w', hrun, r1, r2, r3, r4⟩ := run_append_own_at (P := P) w w0.heap.size ty o.type el i z i.size i.bytes hu hi hz rfl rfl c1 c2 v nn cs hown ⟨gs.getD b 0, d, none⟩ n c (flat env gs new) hnl hcells hones
          (by unfold maxLen; omega) (by
            have := Nat.mul_le_mul hle c3
            omega) h.mem.below.size
        unfold Oper.wp execOp
        simp only [hop, resolve, invoke, builtin, Sem.run_bind, Sem.run_pure, Result.andThen_ok, List.map_toArray, List.map_cons, List.map_nil, hs, ex, hrun]
        have hrow : ∀ g, v.ownBlock = some g → w0.heap.size ≤ g ∧ g < w.heap.size := hown.lt
        have hv1 : v'.oneCell' = true := by
          rcases r1.2 with ⟨rfl, _⟩ | ⟨g, cap, cur, rfl, _⟩ <;> rfl
        have hmem : St w0 w' (bsD env gs st.blocks) := h.mem.grown r2 fun g hg => ⟨(hrow g hg).1, fun x hx e => by
          obtain ⟨j, hj⟩ := List.mem_iff_getElem?.1 hx
          unfold bsD at hj
          rw [List.getElem?_zipWith] at hj
          cases hgj : gs[j]? with
          | none => rw [hgj] at hj; simp at hj
          | some g' =>
            cases hbj : st.blocks[j]? with
            | none => rw [hgj, hbj] at hj; simp at hj
            | some blk' =>
              rw [hgj, hbj] at hj
              simp only [Option.some.injEq] at hj
              subst hj
              simp only at e
              subst e
              exact hfar g' hg (List.mem_of_getElem? hgj)⟩
        have hp2 : env <+: env ++ [v', .agg (cs ++ flat env gs new).toArray] := List.prefix_append _ _
        have hkv : (env ++ [v', .agg (cs ++ flat env gs new).toArray])[st.n]? = some v' := by rw [← h.n]; simp
        have hkc : (env ++ [v', .agg (cs ++ flat env gs new).toArray])[st.n + 1]? = some (.agg (cs ++ flat env gs new).toArray) := by rw [← h.n, List.getElem?_append_right (by omega)]; simp
        have hall : ∀ x ∈ cs ++ flat env gs new, x.oneCell' = true := fun x hx => by
          rcases List.mem_append.1 hx with hx | hx
          · exact hcs1 x hx
          · exact hones x hx
        have hnewblk : ∀ g, v'.ownBlock = some g → v.ownBlock = some g ∨ g = w.heap.size := fun g hg => by
          rcases r4 with r4 | r4
          · exact .inl (r4 ▸ hg)
          · rw [r4] at hg; cases hg; exact .inr rfl
        have hsub : ∀ r ∈ (match m.1 with | some r => st.rows.filter (fun s => s != r) | none => st.rows), r ∈ st.rows := by
          intro r hr
          cases hmm : m.1 with
          | none => rw [hmm] at hr; exact hr
          | some q => rw [hmm] at hr; exact (List.mem_filter.1 hr).1
        have hg2 := h.grow [v', .agg (cs ++ flat env gs new).toArray] rfl
        refine hK _ t1 _ _ w' r2.size hk ?_ hp2 (Den.put (env := env ++ [v', .agg (cs ++ flat env gs new).toArray]) ?_ o.dst (fun _ => ?_)) (hnext v' hv1)
        · cases o.dst <;> rfl
        · refine ⟨hg2.n, hg2.gl, hg2.sl, hg2.slots, ?_, hg2.bok, hg2.df, ?_⟩
          · show St w0 w' (bsD (env ++ [v', .agg (cs ++ flat env gs new).toArray]) gs st.blocks)
            rw [bsD_eq, bsA_pre hp2 (List.prefix_refl _) _ _ h.bok]; exact hmem
          · refine ⟨fun r hr => ?_, fun r hr u g hu hg => ?_, ?_⟩
            · rcases List.mem_append.1 hr with hr | hr
              · obtain ⟨u, xs, j, h1, h2, h3, h4⟩ := h.rws.own r (hsub r hr)
                refine ⟨u, xs, j, getQ_pre hp2 h1, getQ_pre hp2 h2, h3, h4.kept r2 ?_⟩
                exact hoth r hr u h1
              · simp only [List.mem_singleton] at hr
                subst hr
                refine ⟨v', _, nn + n, hkv, hkc, hall, ?_⟩
                simp only [hm2, hm3]
                exact r1
            · rcases List.mem_append.1 hr with hr | hr
              · have hro := h.rws.own r (hsub r hr)
                exact h.rws.gs r (hsub r hr) u g (hro.back hp2 hu) hg
              · simp only [List.mem_singleton] at hr
                subst hr
                rw [hkv] at hu; cases hu
                rcases hnewblk g hg with hh | rfl
                · exact hfar g hh
                · exact fun hx => by have := (h.gs_lt _ hx).2; omega
            · refine List.pairwise_append.2 ⟨?_, List.pairwise_singleton _ _, fun r hr s hs u u' g hu hu' hg => ?_⟩
              · have hpw : ((match m.1 with | some r => st.rows.filter (fun s => s != r) | none => st.rows)).Pairwise fun (r s : RowS) => ∀ (v u : Value) (g : Nat), env[r.kv]? = some v → env[s.kv]? = some u → v.ownBlock = some g → u.ownBlock ≠ some g := by
                  cases m.1 with
                  | none => exact h.rws.pw
                  | some q => exact h.rws.pw.sublist List.filter_sublist
                exact pw_mem hpw fun r hr s hs hp v u g hv hu => hp v u g ((h.rws.own r (hsub r hr)).back hp2 hv) ((h.rws.own s (hsub s hs)).back hp2 hu)
              · simp only [List.mem_singleton] at hs
                subst hs
                rw [hkv] at hu'; cases hu'
                have hro := h.rws.own r (hsub r hr)
                have hu0 := hro.back hp2 hu
                intro hg'
                rcases hnewblk g hg' with hh | rfl
                · rcases hoth r hr u hu0 with h8 | h8
                  · rw [h8] at hg; cases hg
                  · exact h8 (by rw [hg, hh])
                · have := (hro.lt hu0 hg).2; omega
        · have e : (env ++ [v', .agg (cs ++ flat env gs new).toArray]).getD st.n undef = v' := by simp only [List.getD, hkv]; rfl
          exact ⟨by simp only [SV.den, Leaf.den, Atom.den, e], (List.getElem?_eq_some_iff.1 hkv).1, by rw [e]; exact hv1⟩
  · cases hm
end
end Go.Proofs.Ytdpongijmmdnoaa
