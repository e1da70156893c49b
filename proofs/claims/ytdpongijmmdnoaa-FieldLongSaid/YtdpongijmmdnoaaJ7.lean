/- joined: Syd Sye Syf Syg -/
import Derived.Test.YtdpongijmmdnoaaJ6
import Derived.Laws.MakeOwn
import Derived.ScopeJumps
import Derived.ChangeKeysEq
import Derived.Laws.StructEq
set_option linter.unusedSimpArgs false
set_option linter.unusedVariables false
/- The trees are sound: operations. Over any program. -/
namespace Go.Proofs.Ytdpongijmmdnoaa
open Go.RowKit

theorem var1_ok : ∀ {l : List Seg} {ks : List (Nat × Nat)}, l.mapM Seg.var1 = some ks → l = ks.map mseg
 | [], ks, h => by simp at h; subst h; rfl
 | s :: l, ks, h => by
  simp only [List.mapM_cons, Option.bind_eq_bind, Option.pure_def, Option.bind_eq_some_iff] at h
  obtain ⟨k, hk, r, hr, he⟩ := h
  cases he
  rw [List.map_cons, ← var1_ok hr]
  unfold Seg.var1 at hk
  split at hk
  ·cases hk; rfl
  ·rename_i k n
   split at hk
   ·cases hk
   ·rename_i h0
    cases hk
    have h0 : ¬ n = 0 := by simpa using h0
    simp only [mseg, h0, if_false]
  ·cases hk
theorem mseg_den {env : List Value} {gs : List Nat} (c : Nat × Nat) : (mseg c).den env gs = mden env c := by
 unfold mseg mden
 split <;> rfl
theorem mseg_ok {env : List Value} {gs : List Nat} {c : Nat × Nat} : (mseg c).OK env gs ↔ MthOK env c := by
 unfold mseg MthOK
 split <;> exact Iff.rfl
theorem var1_flat {env : List Value} {gs : List Nat} (ks : List (Nat × Nat)) : flat env gs (ks.map mseg) = ks.flatMap (mden env) := by
 unfold flat
 induction ks with
 | nil => rfl
 | cons k r ih => simp only [List.map_cons, List.flatMap_cons, mseg_den, ih]
section
variable {P : Program} {orc : Orc} {w0 : World} {M : Marks} {β : Base} {R : Ending → World → Prop} {st : Sym} {env env' : List Value} {gs gs' : List Nat} {a : Act} {w : World} {ops : Array Oper} {Q : Exit → Act → World → Prop} {L : List (List Value → Base → Prop)}

theorem bsA_pre (h : env <+: env') (g : gs <+: gs') : ∀ (bl : List Blk) (ad : List Nat), (∀ b ∈ bl, ∀ s ∈ b.1, s.OK env gs) → bsA env' gs' ad bl = bsA env gs ad bl
 | [], ad, _ => by cases ad <;> rfl
 | b :: bl, [], _ => rfl
 | b :: bl, x :: ad, hb => by
  have e := bsA_pre h g bl ad fun c hc => hb c (List.mem_cons_of_mem _ hc)
  have := (flat_pre h g (hb b (by simp))).2
  simp only [bsA, List.zipWith_cons_cons, catS_flat] at e ⊢
  rw [this, e]
theorem bsA_app (ad ad' : List Nat) (bl bl' : List Blk) (h : ad.length = bl.length) : bsA env gs (ad ++ ad') (bl ++ bl') = bsA env gs ad bl ++ bsA env gs ad' bl' := by
 unfold bsA; exact List.zipWith_append h
theorem bsD_eq (bl : List Blk) : bsD env gs bl = bsA env gs gs bl := rfl

theorem getQ_pre (h : env <+: env') {k : Nat} {v : Value} (hk : env[k]? = some v) : env'[k]? = some v := by
 obtain ⟨e, rfl⟩ := h
 rw [List.getElem?_append_left (List.getElem?_eq_some_iff.1 hk).1]; exact hk
theorem ownsRow_fut {base : Nat} {e : TypeId} {size : Nat} {v : Value} {n : Nat} {xs : List Value} {w W : World} (h : w.ownsRow base e size v n xs) (hW : Fut w W) : W.ownsRow base e size v n xs := by
 refine ⟨h.1, ?_⟩
 rcases h.2 with hn | ⟨g, cap, cur, rfl, hb, hgg, rest⟩
 ·exact .inl hn
 ·refine .inr ⟨g, cap, cur, rfl, hb, ?_, rest⟩
  rw [hW.block g (Array.getElem?_eq_some_iff.1 hgg).1]; exact hgg
theorem RowIn.pre (h : env <+: env') {r : RowS} (hr : RowIn w0 w env r) : RowIn w0 w env' r := by
 obtain ⟨v, cs, m, h1, h2, h3, h4⟩ := hr
 exact ⟨v, cs, m, getQ_pre h h1, getQ_pre h h2, h3, h4⟩
theorem RowIn.fut {W : World} {r : RowS} (hr : RowIn w0 w env r) (hW : Fut w W) : RowIn w0 W env r := by
 obtain ⟨v, cs, m, h1, h2, h3, h4⟩ := hr
 exact ⟨v, cs, m, h1, h2, h3, ownsRow_fut h4 hW⟩
theorem RowIn.back (h : env <+: env') {r : RowS} (hr : RowIn w0 w env r) {v : Value} (hv : env'[r.kv]? = some v) : env[r.kv]? = some v := by
 obtain ⟨u, cs, m, h1, _⟩ := hr
 rw [getQ_pre h h1] at hv; rw [h1]; exact hv
theorem RowIn.lt {r : RowS} (hr : RowIn w0 w env r) {v : Value} {g : Nat} (hv : env[r.kv]? = some v) (hg : v.ownBlock = some g) : w0.heap.size ≤ g ∧ g < w.heap.size := by
 obtain ⟨u, cs, m, h1, _, _, h4⟩ := hr
 rw [h1] at hv; cases hv
 exact h4.lt g hg
theorem pw_mem {α : Type} {R S : α → α → Prop} {l : List α} (h : l.Pairwise R) (hi : ∀ x ∈ l, ∀ y ∈ l, R x y → S x y) : l.Pairwise S := by
 induction l with
 | nil => exact List.Pairwise.nil
 | cons x l ih =>
  obtain ⟨h1, h2⟩ := List.pairwise_cons.1 h
  exact List.pairwise_cons.2 ⟨fun y hy => hi x (by simp) y (List.mem_cons_of_mem _ hy) (h1 y hy), ih h2 fun a ha b hb => hi a (List.mem_cons_of_mem _ ha) b (List.mem_cons_of_mem _ hb)⟩
theorem RowsOK.pre {rows : List RowS} (hr : RowsOK w0 w env gs rows) (h : env <+: env') : RowsOK w0 w env' gs rows :=
 ⟨fun r m => (hr.own r m).pre h, fun r m v g hv hg => hr.gs r m v g ((hr.own r m).back h hv) hg,
   pw_mem hr.pw fun r m s k hp v u g hv hu => hp v u g ((hr.own r m).back h hv) ((hr.own s k).back h hu)⟩
theorem RowsOK.fut {rows : List RowS} {W : World} (hr : RowsOK w0 w env gs rows) (hW : Fut w W) : RowsOK w0 W env gs rows := ⟨fun r m => (hr.own r m).fut hW, hr.gs, hr.pw⟩
theorem RowsOK.more {rows : List RowS} {ad : List Nat} (hr : RowsOK w0 w env gs rows) (h : ∀ r ∈ rows, ∀ v g, env[r.kv]? = some v → v.ownBlock = some g → g ∉ ad) : RowsOK w0 w env (gs ++ ad) rows :=
 ⟨hr.own, fun r m v g hv hg hx => by
   rcases List.mem_append.1 hx with hx | hx
   ·exact hr.gs r m v g hv hg hx
   ·exact h r m v g hv hg hx, hr.pw⟩
theorem RowsOK.turn {rows : List RowS} (hr : RowsOK w0 w env gs rows) {g : Nat} (hg : g ∈ gs) (cs : Array Value) : RowsOK w0 (w.setRow g cs) env gs rows := by
 refine ⟨fun r m => ?_, hr.gs, hr.pw⟩
 obtain ⟨v, xs, n, h1, h2, h3, h4⟩ := hr.own r m
 refine ⟨v, xs, n, h1, h2, h3, h4.1, ?_⟩
 rcases h4.2 with hn | ⟨g', cap, cur, rfl, hb, hgg, rest⟩
 ·exact .inl hn
 ·refine .inr ⟨g', cap, cur, rfl, hb, ?_, rest⟩
  rw [Go.setRow_other w g g' cs (fun e => hr.gs r m _ g' h1 rfl (e ▸ hg))]; exact hgg

theorem ownsRow_cell {base : Nat} {e : TypeId} {size : Nat} {v : Value} {n : Nat} {xs : List Value} (h : w.ownsRow base e size v n xs) (h0 : 0 < xs.length) :
 ∃ g cap, v = .slice (some ⟨g, 0, none⟩) n cap ∧ ∀ j, j < xs.length → w.cell? ⟨g, j, none⟩ = xs[j]? := by
 obtain ⟨h1, ⟨rfl, rfl⟩ | ⟨g, cap, cur, rfl, _, hgg, _, _, hcs, htk⟩⟩ := h
 ·simp at h1; rw [h1] at h0; simp at h0
 ·refine ⟨g, cap, rfl, fun j hj => ?_⟩
  rw [cell_of_row w g j cur e (0, 0) hgg, ← htk, List.getElem?_take, if_pos (by omega)]
  simp
def Kin (st st' : Sym) : Prop := st'.dep = st.dep ∧ ∀ r ∈ st'.rows, r ∈ st.rows
theorem Kin.put (st : Sym) (d : Option Tmp) (v : SV) : Kin st (st.put d v) := by cases d <;> exact ⟨rfl, fun _ h => h⟩
theorem Bas.pre {rows : List RowS} (b : Bas β env gs rows w) (hr : ∀ r ∈ rows, RowIn w0 w env r) (h : env <+: env') : Bas β env' gs rows w :=
 ⟨b.up, fun k hk => b.own k (by
   rcases hk with hk | ⟨r, hm, v, hv, hg⟩
   ·exact .inl hk
   ·exact .inr ⟨r, hm, v, (hr r hm).back h hv, hg⟩)⟩
theorem Bas.more {rows : List RowS} {ad : List Nat} (b : Bas β env gs rows w) (h : ∀ g ∈ ad, g < β.w.heap.size → β.x g) : Bas β env (gs ++ ad) rows w :=
 ⟨b.up, fun k hk hlt => by
   rcases hk with hk | hk
   ·rcases List.mem_append.1 hk with hk | hk
    ·exact b.own k (.inl hk) hlt
    ·exact h k hk hlt
   ·exact b.own k (.inr hk) hlt⟩

theorem Den.put (h : Den w0 M β st env gs a w) (d : Option Tmp) {v : SV} {x : Value} (hv : v ≠ .any → x = v.den env gs ∧ v.OK env gs) : Den w0 M β (st.put d v) env gs (a.put d x) w := by
 cases d with
 | none => exact h
 | some t =>
  refine ⟨h.n, h.gl, by simp [Act.put, Sym.put, h.sl], fun u y hu hy => ?_, h.mem, h.bok, h.df, h.rws, h.bas⟩
  simp only [Sym.put, List.getElem?_set] at hu
  by_cases htu : t = u
  ·subst htu
   rw [if_pos rfl] at hu
   split at hu
   ·rename_i hlt
    cases hu
    obtain ⟨e, ok⟩ := hv hy
    have hlt' : t < a.tmps.size := by rw [h.sl]; exact hlt
    refine ⟨?_, ok⟩
    simp [Act.put, hlt', e]
   ·cases hu
  ·rw [if_neg htu] at hu
   obtain ⟨e, ok⟩ := h.slots u y hu hy
   refine ⟨?_, ok⟩
   simp [Act.put, Array.getElem?_setIfInBounds_ne htu]
   simpa using e

theorem Den.fut (h : Den w0 M β st env gs a w) {W : World} (hW : Fut w W) : Den w0 M β st env gs a W := ⟨h.n, h.gl, h.sl, h.slots, h.mem.call hW, h.bok, h.df.fut hW, h.rws.fut hW, h.bas.fut hW⟩
theorem Den.drew (h : Den w0 M β st env gs a w) : Den w0 M β st env gs a w.drew := ⟨h.n, h.gl, h.sl, h.slots, h.mem.drew, h.bok, h.df.fut (Below.refl _ w).drew, h.rws.fut (Below.refl _ w).drew, h.bas.fut (Below.refl _ w).drew⟩
theorem Den.base {β' : Base} (h : Den w0 M β st env gs a w) (hb : Bas β' env gs st.rows w) (hm : ∀ m ∈ M.ks, (m.1 < β.w.heap.size → β.x m.1) → m.1 < β'.w.heap.size → β'.x m.1) : Den w0 M β' st env gs a w :=
 ⟨h.n, h.gl, h.sl, h.slots, h.mem, h.bok, h.df.base fun m hm' _ _ hx => hm m hm' hx, h.rws, hb⟩

theorem Den.grow (h : Den w0 M β st env gs a w) (vs : List Value) {n : Nat} (hn : vs.length = n) : Den w0 M β (st.grow n) (env ++ vs) gs a w := by
 have hp : env <+: env ++ vs := List.prefix_append _ _
 have hg : gs <+: gs := List.prefix_refl _
 refine ⟨by simp [Sym.grow, h.n, hn], h.gl, h.sl, fun t x ht hx => ?_, ?_, fun b hb s hs => (Seg.pre hp hg (h.bok b hb s hs)).1, h.df, h.rws.pre hp, h.bas.pre h.rws.own hp⟩
 ·obtain ⟨e, ok⟩ := h.slots t x ht hx
  obtain ⟨p1, p2⟩ := SV.pre hp hg ok
  exact ⟨by rw [p2]; exact e, p1⟩
 ·show St w0 w (bsD (env ++ vs) gs st.blocks)
  rw [bsD_eq, bsA_pre hp hg _ _ h.bok]; exact h.mem

theorem Den.addR (h : Den w0 M β st env gs a w) (vs : List Value) {n : Nat} (hn : vs.length = n) (q : RowS) (hin : RowIn w0 w (env ++ vs) q)
 (hq : ∀ v g, (env ++ vs)[q.kv]? = some v → v.ownBlock = some g → g ∉ gs ∧ (∀ r ∈ st.rows, ∀ u, env[r.kv]? = some u → u.ownBlock ≠ some g) ∧ (g < β.w.heap.size → β.x g)) :
 Den w0 M β { st.grow n with rows := st.rows ++ [q] } (env ++ vs) gs a w := by
 have hg := h.grow vs hn
 refine ⟨hg.n, hg.gl, hg.sl, hg.slots, hg.mem, hg.bok, hg.df, ⟨fun r hr => ?_, fun r hr v g hv hgv => ?_, ?_⟩, ⟨hg.bas.up, fun k hk hlt => ?_⟩⟩
 ·rcases List.mem_append.1 hr with hr | hr
  ·exact hg.rws.own r hr
  ·simp only [List.mem_singleton] at hr; subst hr; exact hin
 ·rcases List.mem_append.1 hr with hr | hr
  ·exact hg.rws.gs r hr v g hv hgv
  ·simp only [List.mem_singleton] at hr; subst hr; exact (hq v g hv hgv).1
 ·refine List.pairwise_append.2 ⟨hg.rws.pw, List.pairwise_singleton _ _, fun r hr s hs v u g hv hu hgv hgu => ?_⟩
  simp only [List.mem_singleton] at hs; subst hs
  exact (hq u g hu hgu).2.1 r hr v ((h.rws.own r hr).back (List.prefix_append _ _) hv) hgv
 ·rcases hk with hk | ⟨r, hr, v, hv, hgv⟩
  ·exact hg.bas.own k (.inl hk) hlt
  ·rcases List.mem_append.1 hr with hr | hr
   ·exact hg.bas.own k (.inr ⟨r, hr, v, hv, hgv⟩) hlt
   ·simp only [List.mem_singleton] at hr; subst hr; exact (hq v k hv hgv).2.2 hlt
theorem rowKv_ok {k : Nat} {r : RowS} (hr : rowKv st k = some r) : r ∈ st.rows ∧ r.kv = k := ⟨List.mem_of_find?_eq_some hr, by have := List.find?_some hr; simpa using this⟩

theorem St.more {bs cs : List (Nat × List Value × TypeId)} (h : St w0 w bs) (h1 : ∀ x ∈ cs, w0.heap.size ≤ x.1 ∧ Own w x.1 x.2.1 x.2.2) (h2 : cs.Pairwise fun x y => x.1 ≠ y.1) (h3 : ∀ x ∈ bs, ∀ y ∈ cs, x.1 ≠ y.1) : St w0 w (bs ++ cs) := by
 refine ⟨h.below, fun x hx => ?_, List.pairwise_append.2 ⟨h.apart, h2, h3⟩⟩
 rcases List.mem_append.1 hx with hx | hx
 ·exact h.own x hx
 ·exact h1 x hx

theorem Den.blk (h : Den w0 M β st env gs a w) (ad : List Nat) (nb : List Blk) (hl : ad.length = nb.length) (ok : ∀ b ∈ nb, ∀ s ∈ b.1, s.OK env (gs ++ ad))
 (h1 : ∀ x ∈ bsA env (gs ++ ad) ad nb, w0.heap.size ≤ x.1 ∧ Own w x.1 x.2.1 x.2.2) (h2 : (bsA env (gs ++ ad) ad nb).Pairwise fun x y => x.1 ≠ y.1) (h3 : ∀ x ∈ gs, x ∉ ad) (h4 : ∀ r ∈ st.rows, ∀ v g, env[r.kv]? = some v → v.ownBlock = some g → g ∉ ad) (h5 : ∀ g ∈ ad, g < β.w.heap.size → β.x g) : Den w0 M β (st.blk nb) env (gs ++ ad) a w := by
 have hp : env <+: env := List.prefix_refl _
 have hg : gs <+: gs ++ ad := List.prefix_append _ _
 refine ⟨h.n, by simp [Sym.blk, h.gl, hl], h.sl, fun t x ht hx => ?_, ?_, fun b hb s hs => ?_, h.df, h.rws.more h4, h.bas.more h5⟩
 ·obtain ⟨e, ok⟩ := h.slots t x ht hx
  obtain ⟨p1, p2⟩ := SV.pre hp hg ok
  exact ⟨by rw [p2]; exact e, p1⟩
 ·show St w0 w (bsD env (gs ++ ad) (st.blocks ++ nb))
  rw [bsD_eq, bsA_app _ _ _ _ h.gl, bsA_pre hp hg _ _ h.bok]
  refine h.mem.more h1 h2 fun x hx y hy => ?_
  have mem : ∀ (E : List Value) (G : List Nat) (l : List Nat) (bl : List Blk) x, x ∈ bsA E G l bl → x.1 ∈ l := by
   intro E G l
   induction l with
   | nil => intro bl x hx; cases bl <;> cases hx
   | cons g l ih =>
    intro bl x hx
    cases bl with
    | nil => cases hx
    | cons b bl =>
     simp only [bsA, List.zipWith_cons_cons] at hx
     rcases List.mem_cons.1 hx with rfl | hx
     ·simp
     ·exact List.mem_cons_of_mem _ (ih bl x hx)
  exact fun e => h3 _ (mem _ _ _ _ _ hx) (e ▸ mem _ _ _ _ _ hy)
 ·rcases List.mem_append.1 hb with hb | hb
  ·exact (Seg.pre hp hg (h.bok b hb s hs)).1
  ·exact ok b hb s hs

theorem Den.gs_lt (h : Den w0 M β st env gs a w) : ∀ g ∈ gs, w0.heap.size ≤ g ∧ g < w.heap.size := by
 intro g hg
 obtain ⟨b, hb⟩ := List.mem_iff_getElem?.1 hg
 have hlt : b < st.blocks.length := by rw [← h.gl]; exact (List.getElem?_eq_some_iff.1 hb).1
 have e := bsD_get (env := env) h.gl (List.getElem?_eq_getElem hlt)
 have hgb : gs.getD b 0 = g := by simp [List.getD, hb]
 rw [hgb] at e
 exact ⟨(h.mem.own _ (List.mem_of_getElem? e)).1, (h.mem.own _ (List.mem_of_getElem? e)).2.lt⟩

theorem nz_ok {v u : SV} (h : nz v = some u) : u = v ∧ v ≠ .any := by
 cases v <;> simp [nz] at h <;> subst h <;> exact ⟨rfl, by simp⟩

theorem qval_ok {o : Oper} {v : SV} (hq : qval P st o.op = some v) (h : Den w0 M β st env gs a w) : YF P o a w (v.den env gs) ∧ v.OK env gs ∧ v ≠ .any := by
 unfold qval at hq
 split at hq
 ·rename_i x hop
  obtain ⟨rfl, hv⟩ := nz_ok hq
  obtain ⟨e, ok⟩ := h.opd rfl hv
  exact ⟨yf_move (.inl hop) e, ok, hv⟩
 ·rename_i x hop
  obtain ⟨rfl, hv⟩ := nz_ok hq
  obtain ⟨e, ok⟩ := h.opd rfl hv
  exact ⟨yf_move (.inr hop) e, ok, hv⟩
 ·rename_i c x y hop
  split at hq
  ·rename_i b hc
   obtain ⟨rfl, hv⟩ := nz_ok hq
   obtain ⟨e, ok⟩ := h.opd rfl hv
   have ec := (h.opd hc (by simp)).1
   simp only [SV.den, Leaf.den, Atom.den] at ec
   refine ⟨fun W hW => ?_, ok, hv⟩
   unfold execOp
   simp only [hop, ec, asBool, Sem.run_bind, Sem.run_pure, Result.andThen_ok]
   rw [← e]
   cases b <;> rfl
  ·cases hq
 ·rename_i ty x hop
  split at hq
  ·rename_i b hc
   cases hq
   have ec := (h.opd hc (by simp)).1
   simp only [SV.den, Leaf.den, Atom.den] at ec
   refine ⟨fun W hW => ?_, rfl, by simp⟩
   unfold execOp
   simp only [hop, ec, Op.unary, Sem.run_bind, Sem.run_pure, Result.andThen_ok]
   rfl
  ·cases hq
 ·rename_i ty x hop
  split at hq
  ·rename_i b off hx
   obtain ⟨blk, hb, hv⟩ := Option.bind_eq_some_iff.1 hq
   have := partS_ok hv (h.segs hb)
   exact ⟨yf_load h hop hx hb hv, this.2.1, this.1⟩
  ·cases hq
 ·rename_i ty x k hop
  split at hq
  ·rename_i l hx
   obtain ⟨f, hf, hv⟩ := Option.bind_eq_some_iff.1 hq
   have ok := (h.opd hx (by simp)).2
   have := partS_ok hv ok
   exact ⟨yf_field h hop hx hf hv, this.2.1, this.1⟩
  ·cases hq
 ·rename_i ty x k hop
  split at hq
  ·rename_i b d hx
   obtain ⟨f, hf, hq⟩ := Option.bind_eq_some_iff.1 hq
   obtain ⟨n, hn, hq⟩ := Option.bind_eq_some_iff.1 hq
   split at hq
   ·cases hq
   ·rename_i h0
    cases hq
    have ok := (h.opd hx (by simp)).2
    exact ⟨yf_fieldAddr h hop hx hf hn (by simpa using h0), ok, by simp⟩
  ·rename_i b d j sc hx
   obtain ⟨f, hf, hq⟩ := Option.bind_eq_some_iff.1 hq
   obtain ⟨n, hn, hq⟩ := Option.bind_eq_some_iff.1 hq
   split at hq
   ·cases hq
   ·rename_i h0
    cases hq
    have ok := (h.opd hx (by simp)).2
    exact ⟨yf_fieldAddrI h hop hx hf hn (by simpa using h0), ok, by simp⟩
  ·cases hq
 ·rename_i ty x i hop
  split at hq
  ·rename_i b d kk m hx hi
   obtain ⟨f, hf, hq⟩ := Option.bind_eq_some_iff.1 hq
   obtain ⟨n, hn, hq⟩ := Option.bind_eq_some_iff.1 hq
   split at hq
   ·rename_i hm
    cases hq
    have ok := (h.opd hx (by simp)).2
    exact ⟨yf_indexArr h hop hx hi hf hn hm, ok, by simp⟩
   ·cases hq
  ·rename_i b d len cap kk m hx hi
   obtain ⟨el, hf, hq⟩ := Option.bind_eq_some_iff.1 hq
   obtain ⟨n, hn, hq⟩ := Option.bind_eq_some_iff.1 hq
   split at hq
   ·rename_i hm
    cases hq
    have ok := (h.opd hx (by simp)).2
    exact ⟨yf_indexSlc h hop hx hi hf hn hm, ok, by simp⟩
   ·cases hq
  ·cases hq
 ·rename_i ty x lo hi hop
  split at hq
  ·rename_i b d hx
   obtain ⟨f, hf, hq⟩ := Option.bind_eq_some_iff.1 hq
   obtain ⟨n, hn, hq⟩ := Option.bind_eq_some_iff.1 hq
   obtain ⟨l, hl, hq⟩ := Option.bind_eq_some_iff.1 hq
   obtain ⟨u, hu, hq⟩ := Option.bind_eq_some_iff.1 hq
   split at hq
   ·rename_i hc
    cases hq
    have ok := (h.opd hx (by simp)).2
    exact ⟨yf_sliceArr h hop hx hf hn hl hu hc.1 hc.2, ok, by simp⟩
   ·cases hq
  ·cases hq
 ·rename_i ty x hop
  split at hq
  ·rename_i b d len cap hx
   obtain ⟨f, hf, hq⟩ := Option.bind_eq_some_iff.1 hq
   split at hq
   ·rename_i hc
    cases hq
    have ok := (h.opd hx (by simp)).2
    exact ⟨yf_toArr h hop hx hf hc, ok, by simp⟩
   ·cases hq
  ·cases hq
 ·rename_i x k hop
  split at hq
  ·rename_i l hx
   obtain ⟨y, hy, hq⟩ := Option.map_eq_some_iff.1 hq
   subst hq
   have ok := (h.opd hx (by simp)).2
   exact ⟨yf_extract h hop hx hy, ok y (List.mem_of_getElem? hy), by simp⟩
  ·cases hq
 ·rename_i fn first caps hop
  split at hq
  ·rename_i h0
   obtain ⟨cs, hcs, hq⟩ := Option.map_eq_some_iff.1 hq
   subst hq
   have : first = #[] := by simpa using h0
   subst this
   exact ⟨yf_makeFunc h hop hcs, (ptrsOf_ok h _ _ hcs).2, by simp⟩
  ·split at hq
   ·rename_i x h1 h2
    obtain ⟨y, hy, hq⟩ := Option.bind_eq_some_iff.1 hq
    obtain ⟨z, hz, hok⟩ : ∃ z, opd st x = .leaf z ∧ z = y := by
     unfold leafOf at hy
     split at hy
     ·rename_i z hz; cases hy; exact ⟨_, hz, rfl⟩
     ·cases hy
    subst hok
    split at hq
    ·rename_i l
     obtain ⟨ks, hks, hq⟩ := Option.map_eq_some_iff.1 hq
     subst hq
     have hl := var1_ok hks
     have hd := h.opd hz (by simp)
     obtain rfl : first = #[x] := by apply Array.ext'; simpa using h1
     obtain rfl : caps = #[] := by apply Array.ext'; simpa using h2
     subst hl
     have ok : ∀ k ∈ ks, MthOK env k := fun k hk => mseg_ok.1 (hd.2 (mseg k) (List.mem_map.2 ⟨k, hk, rfl⟩))
     refine ⟨yf_makeFunc1 (gs := gs) hop ?_, ok, by simp⟩
     rw [hd.1]
     simp only [SV.den, Leaf.den, catS_flat]
     rw [var1_flat]
    ·cases hq
   ·cases hq
 ·rename_i ty parts hop
  obtain ⟨l, hl, hq⟩ := Option.map_eq_some_iff.1 hq
  subst hq
  obtain ⟨h1, h2⟩ := yf_build h hop hl
  exact ⟨h1, h2, by simp⟩
 ·rename_i x hop
  split at hq
  ·rename_i b d hx
   cases hq
   obtain ⟨e, ok⟩ := h.opd hx (by simp)
   refine ⟨fun W hW => ?_, ok, by simp⟩
   simp only [SV.den, Leaf.den, Atom.den] at e ⊢
   unfold execOp
   simp only [hop, e, Sem.run_pure]
  ·cases hq
 ·cases hq

theorem qpure_ok {o : Oper} {v : SV} (hp : pureOp o.op = true) (hq : qval P st o.op = some v) (h : Den w0 M β st env gs a w) : (∀ W, (execOp a.eval o).run P W = .ok (.value (v.den env gs)) W) ∧ v.OK env gs := by
 have hok := (qval_ok hq h).2.1
 refine ⟨fun W => ?_, hok⟩
 cases hop : o.op with
 | move x =>
  rw [hop] at hq
  obtain ⟨rfl, hv⟩ := nz_ok hq
  simp only [execOp, hop, (h.opd rfl hv).1, Sem.run_pure]
 | assign x =>
  rw [hop] at hq
  obtain ⟨rfl, hv⟩ := nz_ok hq
  simp only [execOp, hop, (h.opd rfl hv).1, Sem.run_pure]
 | extract x k =>
  rw [hop] at hq
  simp only [qval] at hq
  split at hq
  ·rename_i l hx
   obtain ⟨y, hy, hq⟩ := Option.map_eq_some_iff.1 hq
   subst hq
   have e := (h.opd hx (by simp)).1
   simp only [SV.den] at e
   unfold execOp
   simp only [hop, e, Instr.extract, Sem.run_bind]
   simp [hy, SV.den]
  ·cases hq
 | build ty parts =>
  rw [hop] at hq
  simp only [qval] at hq
  obtain ⟨l, hl, hq⟩ := Option.map_eq_some_iff.1 hq
  subst hq
  exact (yf_build0 h hop hl).1 W
 | _ => rw [hop] at hp; cases hp
theorem leafOf_ok (h : Den w0 M β st env gs a w) {x : Operand} {y : Leaf} (hy : leafOf st x = some y) : a.eval x = y.den env gs ∧ y.OK env gs := by
 unfold leafOf at hy
 split at hy
 ·rename_i z hz
  cases hy
  exact h.opd hz (by simp)
 ·cases hy
theorem leafs_ok (h : Den w0 M β st env gs a w) : ∀ (l : List Operand) (ys : List Leaf), l.mapM (leafOf st) = some ys → l.map a.eval = ys.map (Leaf.den env gs) ∧ ∀ y ∈ ys, y.OK env gs
 | [], ys, hm => by simp at hm; subst hm; simp
 | x :: l, ys, hm => by
  simp only [List.mapM_cons, Option.bind_eq_bind, Option.pure_def, Option.bind_eq_some_iff] at hm
  obtain ⟨c, hc, r, hr, he⟩ := hm
  cases he
  obtain ⟨h1, h2⟩ := leafs_ok h l r hr
  obtain ⟨e, ok⟩ := leafOf_ok h hc
  refine ⟨by simp [h1, e], ?_⟩
  intro y hy
  rcases List.mem_cons.1 hy with rfl | hy
  ·exact ok
  ·exact h2 y hy
theorem ptrOf_ok (h : Den w0 M β st env gs a w) {x : Operand} {c : Nat × Nat} (hc : ptrOf st x = some c) : a.eval x = .pointer (some ⟨gs.getD c.1 0, c.2, none⟩) ∧ c.1 < gs.length := by
 unfold ptrOf at hc
 split at hc
 ·rename_i b o hx
  cases hc
  exact h.opd hx (by simp)
 ·cases hc

theorem gdS_ok (h : Den w0 M β st env gs a w) {o : Oper} {b : Bool} (hg : gdS st ops o = some b) : Region.wanted o (yielded ops a.tmps) = b := by
 unfold gdS at hg
 unfold Region.wanted
 split at hg
 ·rename_i h0; cases hg; rw [h0]
 ·rename_i j want h0
  rw [h0]
  simp only
  split at hg
  ·rename_i t ht
   have get : ∀ x : SV, st.slots[t]? = some x → x ≠ .any → a.tmps[t]? = some (x.den env gs) := by
    intro x hx hxa
    have hlt : t < a.tmps.size := by rw [h.sl]; exact (List.getElem?_eq_some_iff.1 hx).1
    have := (h.slots t x hx hxa).1
    rw [← this]; simp [hlt]
   split at hg
   ·rename_i bb hx
    cases hg
    have := get _ hx (by simp)
    simp only [yielded, ht, Option.bind_some, this, SV.den, Leaf.den, Atom.den]
    cases bb <;> cases want <;> rfl
   ·rename_i hx
    cases hg
    have := get _ hx (by simp)
    simp only [yielded, ht, Option.bind_some, this, SV.den]
    rfl
   ·cases hg
  ·cases hg

theorem evOf_ok (h : Den w0 M β st env gs a w) (op : Op) : ∀ x ∈ evOf st op, a.eval (.tmp x.1) = x.2.den env gs := by
 intro x hx
 unfold evOf at hx
 obtain ⟨t, _, ht⟩ := List.mem_filterMap.1 hx
 have e : opd st (.tmp t) = st.slots.getD t .any := rfl
 split at ht
 ·cases ht
 ·rename_i v hv
  cases ht
  rw [← e]
  exact (h.opd rfl (by rw [e]; exact hv)).1

theorem blOf_mem (h : Den w0 M β st env gs a w) (b : Bool) : Mm w0 w env gs (blOf st b) := by
 unfold blOf
 cases b with
 | true => exact ⟨h.mem, h.rws.own, h.bok, Nat.le_of_eq h.gl.symm⟩
 | false => exact ⟨by have e : bsD env gs (if false = true then (st.blocks, st.rows) else ([], [])).1 = [] := by simp [bsD]
                      rw [e]; exact ⟨h.mem.below, by simp, List.Pairwise.nil⟩, (by intro r hr; cases hr), (by intro b hb; cases hb), Nat.zero_le _⟩

theorem idxS_ok {o : Oper} {x : Atom} {f : Tree → Tree} {t : Tree} (hi : idxS P st o.op = some (x, f)) (h : Den w0 M β st env gs a w) (hT : TWb P w0 R (f t) L env gs β) : YF P o a w (x.den env gs) ∧ x.OK env gs ∧ TWb P w0 R t L env gs β := by
 unfold idxS at hi
 split at hi
 ·rename_i ty p i hop
  have getk : ∀ {k : Nat} {v : Value}, env[k]? = some v → env.getD k undef = v := fun {k v} hk => by simp [List.getD, hk]
  split at hi
  ·rename_i b d k hx hk
   obtain ⟨fa, hfa, hi⟩ := Option.bind_eq_some_iff.1 hi
   obtain ⟨n, hn, hi⟩ := Option.map_eq_some_iff.1 hi
   cases hi
   obtain ⟨kd, m, hm, h0, h1, hT'⟩ := hT
   have ep := (h.opd hx (by simp))
   have ei := (h.opd hk (by simp))
   simp only [SV.den, Leaf.den, Atom.den, getk hm] at ep ei
   refine ⟨fun W hW => ?_, ⟨ep.2, (List.getElem?_eq_some_iff.1 hm).1⟩, hT'⟩
   unfold tyArr at hfa
   split at hfa
   ·rename_i c el' hu
    cases hfa
    unfold execOp
    simp only [hop, ep.1, ei.1, Instr.indexAt, asIntOf, Sem.run_bind, run_underlying hu, Result.andThen_ok, Instr.sureAddr, Sem.run_pure, tyN_run hn, h0, h1, and_self, if_true, addr_add, Atom.den, getk hm, intN]
   ·cases hfa
  ·rename_i b d len cap k hx hk
   obtain ⟨el, hfa, hi⟩ := Option.bind_eq_some_iff.1 hi
   obtain ⟨n, hn, hi⟩ := Option.map_eq_some_iff.1 hi
   cases hi
   obtain ⟨kd, m, hm, h0, h1, hT'⟩ := hT
   have ep := (h.opd hx (by simp))
   have ei := (h.opd hk (by simp))
   simp only [SV.den, Leaf.den, Atom.den, getk hm] at ep ei
   refine ⟨fun W hW => ?_, ⟨ep.2, (List.getElem?_eq_some_iff.1 hm).1⟩, hT'⟩
   unfold tySlc at hfa
   split at hfa
   ·rename_i el' hu
    cases hfa
    unfold execOp
    simp only [hop, ep.1, ei.1, Instr.indexAt, asIntOf, Sem.run_bind, run_underlying hu, Result.andThen_ok, Sem.run_pure, tyN_run hn, h0, h1, and_self, if_true, addr_add, Atom.den, getk hm, intN]
   ·cases hfa
  ·rename_i b d j k hx hk
   obtain ⟨el, hfa, hi⟩ := Option.bind_eq_some_iff.1 hi
   obtain ⟨n, hn, hi⟩ := Option.map_eq_some_iff.1 hi
   cases hi
   obtain ⟨kd, m, hm, h0, h1, hT'⟩ := hT
   have ep := (h.opd hx (by simp))
   have ei := (h.opd hk (by simp))
   simp only [SV.den, Leaf.den, Atom.den, getk hm] at ep ei
   refine ⟨fun W hW => ?_, ⟨ep.2.1, (List.getElem?_eq_some_iff.1 hm).1⟩, hT'⟩
   unfold tySlc at hfa
   split at hfa
   ·rename_i el' hu
    cases hfa
    generalize env.getD j undef = sv at *
    cases sv with
    | slice ad l c =>
     simp only [lenN] at h1
     simp only at ep
     unfold execOp
     simp only [hop, ep.1, ei.1, Instr.indexAt, asIntOf, Sem.run_bind, run_underlying hu, Result.andThen_ok, Sem.run_pure, tyN_run hn, h0, h1, and_self, if_true, addr_add, Atom.den, getk hm, intN]
    | _ => simp only [lenN] at h1; omega
   ·cases hfa
  ·rename_i b d j kd m hx hk
   obtain ⟨el, hfa, hi⟩ := Option.bind_eq_some_iff.1 hi
   obtain ⟨n, hn, hi⟩ := Option.bind_eq_some_iff.1 hi
   split at hi
   ·rename_i h0
    cases hi
    obtain ⟨h1, hT'⟩ := (show _ ∧ _ from hT)
    have ep := (h.opd hx (by simp))
    have ei := (h.opd hk (by simp))
    simp only [SV.den, Leaf.den, Atom.den] at ep ei
    refine ⟨fun W hW => ?_, ep.2.1, hT'⟩
    unfold tySlc at hfa
    split at hfa
    ·rename_i el' hu
     cases hfa
     generalize env.getD j undef = sv at *
     cases sv with
     | slice ad l c =>
      simp only [lenN] at h1
      simp only at ep
      have h1' : m < (l : Int) := by omega
      unfold execOp
      simp only [hop, ep.1, ei.1, Instr.indexAt, asIntOf, Sem.run_bind, run_underlying hu, Result.andThen_ok, Sem.run_pure, tyN_run hn, h0, h1', and_self, if_true, addr_add, Atom.den]
     | _ => simp only [lenN] at h1; omega
    ·cases hfa
   ·cases hi
  ·rename_i j k hx hk
   obtain ⟨r, hr, hi⟩ := Option.bind_eq_some_iff.1 hi
   obtain ⟨el, hfa, hi⟩ := Option.bind_eq_some_iff.1 hi
   obtain ⟨n, hn, hi⟩ := Option.map_eq_some_iff.1 hi
   cases hi
   obtain ⟨kd, m, hm, h0, h1, hT'⟩ := hT
   have ep := (h.opd hx (by simp))
   have ei := (h.opd hk (by simp))
   simp only [SV.den, Leaf.den, Atom.den, getk hm] at ep ei
   obtain ⟨hrm, rfl⟩ := rowKv_ok hr
   obtain ⟨v, cs, nn, e1, e2, e3, e4⟩ := h.rws.own r hrm
   rw [getk e1] at ep h1
   refine ⟨fun W hW => ?_, ⟨(List.getElem?_eq_some_iff.1 e1).1, (List.getElem?_eq_some_iff.1 hm).1⟩, hT'⟩
   unfold tySlc at hfa
   split at hfa
   ·rename_i el' hu
    cases hfa
    rcases e4.2 with ⟨rfl, rfl⟩ | ⟨g, cap, cur, rfl, _⟩
    ·simp only [lenN] at h1; omega
    ·simp only [lenN] at h1
     unfold execOp
     simp only [hop, ep.1, ei.1, Instr.indexAt, asIntOf, Sem.run_bind, run_underlying hu, Result.andThen_ok, Sem.run_pure, tyN_run hn, h0, h1, and_self, if_true, Atom.den, getk hm, getk e1, intN, Nat.zero_add]
   ·cases hfa
  ·rename_i j kd m hx hk
   obtain ⟨r, hr, hi⟩ := Option.bind_eq_some_iff.1 hi
   obtain ⟨el, hfa, hi⟩ := Option.bind_eq_some_iff.1 hi
   obtain ⟨n, hn, hi⟩ := Option.bind_eq_some_iff.1 hi
   split at hi
   ·rename_i h0
    cases hi
    obtain ⟨h1, hT'⟩ := (show _ ∧ _ from hT)
    have ep := (h.opd hx (by simp))
    have ei := (h.opd hk (by simp))
    simp only [SV.den, Leaf.den, Atom.den] at ep ei
    obtain ⟨hrm, rfl⟩ := rowKv_ok hr
    obtain ⟨v, cs, nn, e1, e2, e3, e4⟩ := h.rws.own r hrm
    rw [getk e1] at ep h1
    have hlt := (List.getElem?_eq_some_iff.1 e1).1
    refine ⟨fun W hW => ?_, ⟨hlt, hlt⟩, hT'⟩
    unfold tySlc at hfa
    split at hfa
    ·rename_i el' hu
     cases hfa
     rcases e4.2 with ⟨rfl, rfl⟩ | ⟨g, cap, cur, rfl, _⟩
     ·simp only [lenN] at h1; omega
     ·simp only [lenN] at h1
      have h1' : m < (nn : Int) := by omega
      unfold execOp
      simp only [hop, ep.1, ei.1, Instr.indexAt, asIntOf, Sem.run_bind, run_underlying hu, Result.andThen_ok, Sem.run_pure, tyN_run hn, h0, h1', and_self, if_true, Atom.den, getk e1, Nat.mul_zero, Nat.add_zero]
    ·cases hfa
   ·cases hi
  ·cases hi
 ·cases hi

theorem flat_takeWhile {env : List Value} {gs : List Nat} (q : Seg → Bool) (l : List Seg) : flat env gs (l.takeWhile q) <+: flat env gs l := by
 obtain ⟨r, hr⟩ := List.takeWhile_prefix (l := l) q
 refine ⟨flat env gs r, ?_⟩
 rw [← flat_append, hr]

theorem ldiAt_ok {o : Oper} {ty : TypeId} {p : Operand} {b off k sc : Nat} {x : SV} {f : Tree → Tree} {t : Tree} (hop : o.op = .load ty p) (ep : a.eval p = .pointer (some ⟨gs.getD b 0, off + intN (env.getD k undef) * sc, none⟩))
 (hi : ldiAt P st ty b off k sc = some (x, f)) (h : Den w0 M β st env gs a w) (hT : TWb P w0 R (f t) L env gs β) :
 ∃ v, YF P o a w (x.den (env ++ [v]) gs) ∧ x.OK (env ++ [v]) gs ∧ TWb P w0 R t L (env ++ [v]) gs β := by
 unfold ldiAt at hi
 obtain ⟨blk, hb, hi⟩ := Option.bind_eq_some_iff.1 hi
 obtain ⟨ag, hag, hi⟩ := Option.bind_eq_some_iff.1 hi
 obtain ⟨n, hn, hi⟩ := Option.bind_eq_some_iff.1 hi
 have hl : ∀ v : Value, (env ++ [v]).getD st.n undef = v := fun v => by rw [← h.n]; simp [List.getD]
 have hg : ∀ v : Value, (env ++ [v])[st.n]? = some v := fun v => by rw [← h.n]; simp
 split at hi
 ·rename_i hagt
  split at hi
  ·cases hi
  ·rename_i h0
   cases hi
   have hne : n ≠ 0 := by simpa using h0
   obtain ⟨h1, hT'⟩ := (show _ ∧ _ from hT)
   rw [catS_flat] at h1 hT'
   have hpre := flat_takeWhile (env := env) (gs := gs) Seg.clean blk.1
   have hok := flat_ones (fun s hs => h.segs hb s ((List.takeWhile_prefix Seg.clean).sublist.mem hs)) (fun s hs => List.all_eq_true.1 List.all_takeWhile s hs)
   generalize flat env gs (blk.1.takeWhile Seg.clean) = fl at *
   obtain ⟨tl, htl⟩ := hpre
   have hcut : (fl.drop (off + intN (env.getD k undef) * sc)).take n = ((flat env gs blk.1).drop (off + intN (env.getD k undef) * sc)).take n := by
    rw [← htl, List.drop_append_of_le_length (by omega), List.take_append_of_le_length (by rw [List.length_drop]; omega)]
   have h1' : off + intN (env.getD k undef) * sc + n ≤ (flat env gs blk.1).length := by rw [← htl, List.length_append]; omega
   refine ⟨_, fun W hW => ?_, ?_, hT'⟩
   ·have hO := h.own hb hW
    unfold execOp
    simp only [hop, ep, Instr.loadAt, Instr.sureAddr, Sem.run_bind, Sem.run_pure, Result.andThen_ok, run_loadVar_own W _ _ _ ty _ n hO (tyAgg_size (hagt ▸ hag) hn) h1', ← hcut]
    simp only [SV.den, Leaf.den, catS, Seg.den, cellsAt, hl, Value.cells]
   ·intro s hs
    simp only [List.mem_singleton] at hs; subst hs
    exact ⟨_, hg _, by simp only [List.length_take, List.length_drop]; omega, fun x hx => hok x (List.mem_of_mem_drop (List.mem_of_mem_take hx))⟩
 ·rename_i hagf
  cases hi
  obtain ⟨v, h1, hT'⟩ := (show ∃ v, _ ∧ _ from hT)
  rw [catS_flat] at h1
  have hpre := flat_takeWhile (env := env) (gs := gs) Seg.clean blk.1
  have hok := flat_ones (fun s hs => h.segs hb s ((List.takeWhile_prefix Seg.clean).sublist.mem hs)) (fun s hs => List.all_eq_true.1 List.all_takeWhile s hs) v (List.mem_of_getElem? h1)
  have h1' : (flat env gs blk.1)[off + intN (env.getD k undef) * sc]? = some v := by
   obtain ⟨tl, htl⟩ := hpre
   rw [← htl, List.getElem?_append_left (List.getElem?_eq_some_iff.1 h1).1]; exact h1
  refine ⟨v, fun W hW => ?_, ?_, hT'⟩
  ·have hO := h.own hb hW
   have := hO.cell_of _ h1'
   have hf : ag = false := by simpa using hagf
   unfold execOp
   simp only [hop, ep, Instr.loadAt, Instr.sureAddr, Sem.run_bind, Sem.run_pure, Result.andThen_ok, loadVar, tyAgg_run (hf ▸ hag), Bool.false_eq_true, if_false, run_load, this, SV.den, Leaf.den, Atom.den, hl]
  ·refine ⟨by rw [← h.n]; simp, ?_⟩
   rw [hl]
   exact hok
theorem ldiS_ok {o : Oper} {x : SV} {f : Tree → Tree} {t : Tree} (hi : ldiS P st o.op = some (x, f)) (h : Den w0 M β st env gs a w) (hT : TWb P w0 R (f t) L env gs β) :
 ∃ v, YF P o a w (x.den (env ++ [v]) gs) ∧ x.OK (env ++ [v]) gs ∧ TWb P w0 R t L (env ++ [v]) gs β := by
 unfold ldiS at hi
 split at hi
 ·rename_i ty p hop
  split at hi
  ·rename_i b off k sc hx
   exact ldiAt_ok hop (h.opd hx (by simp)).1 hi h hT
  ·rename_i b off hx
   exact ldiAt_ok hop ((h.opd hx (by simp)).1.trans (by simp [SV.den, Leaf.den, Atom.den])) hi h hT
  ·rename_i v off k sc hx
   obtain ⟨r, hr, hi⟩ := Option.bind_eq_some_iff.1 hi
   obtain ⟨ag, hag, hi⟩ := Option.bind_eq_some_iff.1 hi
   obtain ⟨n, hn, hj⟩ := Option.bind_eq_some_iff.1 hi
   obtain ⟨hrm, rfl⟩ := rowKv_ok hr
   obtain ⟨v, cs, nn, e1, e2, e3, e4⟩ := h.rws.own r hrm
   have ep := (h.opd hx (by simp)).1
   have eg : env.getD r.kv undef = v := by simp [List.getD, e1]
   have ec : cellsAt env r.kc = cs := by simp [cellsAt, List.getD, e2, Value.cells]
   simp only [SV.den, Leaf.den, Atom.den, eg] at ep
   have hl : ∀ v : Value, (env ++ [v]).getD st.n undef = v := fun v => by rw [← h.n]; simp [List.getD]
   have hg : ∀ v : Value, (env ++ [v])[st.n]? = some v := fun v => by rw [← h.n]; simp
   split at hj
   ·rename_i hagt
    split at hj
    ·cases hj
    ·rename_i h0
     cases hj
     have hne : n ≠ 0 := by simpa using h0
     obtain ⟨h1, hT'⟩ := (show _ ∧ _ from hT)
     simp only [catS, Seg.den, ec] at h1 hT'
     refine ⟨_, fun W hW => ?_, ?_, hT'⟩
     ·obtain ⟨g, cap, rfl, hcell⟩ := ownsRow_cell (ownsRow_fut e4 hW) (by omega)
      have hlen : ((cs.drop (off + intN (env.getD k undef) * sc)).take n).length = n := by rw [List.length_take, List.length_drop]; omega
      have hld := run_loadCells_list (P := P) W ⟨g, off + intN (env.getD k undef) * sc, none⟩ ((cs.drop (off + intN (env.getD k undef) * sc)).take n) (fun j u hj => by
       have hjl := (List.getElem?_eq_some_iff.1 hj).1
       rw [hlen] at hjl
       rw [addr_add, hcell _ (by omega)]
       rw [List.getElem?_take, if_pos hjl, List.getElem?_drop] at hj
       exact hj)
      rw [hlen] at hld
      unfold execOp
      simp only [hop, ep, Instr.loadAt, Instr.sureAddr, Sem.run_bind, Sem.run_pure, Result.andThen_ok, loadVar, tyAgg_run (hagt ▸ hag), if_true, tyN_run hn, addr_add, Nat.zero_add, hld]
      simp only [SV.den, Leaf.den, catS, Seg.den, cellsAt, hl, Value.cells]
     ·intro s hs
      simp only [List.mem_singleton] at hs; subst hs
      exact ⟨_, hg _, by simp only [List.length_take, List.length_drop]; omega, fun x hx => e3 x (List.mem_of_mem_drop (List.mem_of_mem_take hx))⟩
   ·rename_i hagf
    cases hj
    obtain ⟨u, h1, hT'⟩ := (show ∃ v, _ ∧ _ from hT)
    simp only [catS, Seg.den, ec] at h1
    have hjl := (List.getElem?_eq_some_iff.1 h1).1
    refine ⟨u, fun W hW => ?_, ?_, hT'⟩
    ·obtain ⟨g, cap, rfl, hcell⟩ := ownsRow_cell (ownsRow_fut e4 hW) (by omega)
     have hf : ag = false := by simpa using hagf
     have := hcell _ hjl
     rw [h1] at this
     unfold execOp
     simp only [hop, ep, Instr.loadAt, Instr.sureAddr, Sem.run_bind, Sem.run_pure, Result.andThen_ok, loadVar, tyAgg_run (hf ▸ hag), Bool.false_eq_true, if_false, run_load, addr_add, Nat.zero_add, this, SV.den, Leaf.den, Atom.den, hl]
    ·refine ⟨by rw [← h.n]; simp, ?_⟩
     rw [hl]
     exact e3 u (List.mem_of_getElem? h1)
  ·cases hi
 ·cases hi

theorem quietC_ok {o : Oper} {k : Sym → Option Tree} {t : Tree} (hq : quietC P orc st o k = some t) (h : Den w0 M β st env gs a w) (hT : TWb P w0 R t L env gs β) :
 ∃ v st' t' env', YF P o a w v ∧ k st' = some t' ∧ Kin st st' ∧ env <+: env' ∧ Den w0 M β st' env' gs (a.put o.dst v) w ∧ TWb P w0 R t' L env' gs β := by
 unfold quietC at hq
 split at hq
 ·rename_i v hv
  obtain ⟨h1, h2, h3⟩ := qval_ok hv h
  refine ⟨_, _, t, env, h1, hq, ?_, List.prefix_refl _, h.put o.dst (fun _ => ⟨rfl, h2⟩), hT⟩
  cases o.dst <;> exact ⟨rfl, fun _ h => h⟩
 split at hq
 ·rename_i x f hx
  obtain ⟨t1, hk, rfl⟩ := Option.map_eq_some_iff.1 hq
  obtain ⟨h1, h2, h3⟩ := idxS_ok hx h hT
  refine ⟨_, _, t1, env, h1, hk, ?_, List.prefix_refl _, h.put o.dst (v := .leaf (.atom x)) (fun _ => ⟨rfl, h2⟩), h3⟩
  cases o.dst <;> exact ⟨rfl, fun _ h => h⟩
 split at hq
 ·rename_i x f hx
  obtain ⟨t1, hk, rfl⟩ := Option.map_eq_some_iff.1 hq
  obtain ⟨v, h1, h2, h3⟩ := ldiS_ok hx h hT
  refine ⟨_, _, t1, env ++ [v], h1, hk, ?_, List.prefix_append _ _, (h.grow [v] rfl).put o.dst (fun _ => ⟨rfl, h2⟩), h3⟩
  cases o.dst <;> exact ⟨rfl, fun _ h => h⟩
 ·obtain ⟨an, _, hq⟩ := Option.bind_eq_some_iff.1 hq
  have fin : ∀ (s : Spec) (t1 : Tree), calc1 st o s k = some t1 → Yields1 P w0 o.op o.type (evOf st o.op) (blOf st ((evOf st o.op).any (·.2.looks st))) env gs β (s.r.shift st.n st.blocks.length) s.n (TWb P w0 R t1 L) →
   ∃ v st' t' env', YF P o a w v ∧ k st' = some t' ∧ Kin st st' ∧ env <+: env' ∧ Den w0 M β st' env' gs (a.put o.dst v) w ∧ TWb P w0 R t' L env' gs β := by
   intro s t1 hc hy
   obtain ⟨vs, hn, ok, hex, hT'⟩ := hy
   refine ⟨(s.r.shift st.n st.blocks.length).den (env ++ vs) gs, _, t1, env ++ vs, fun W hW => hex o a W rfl rfl (evOf_ok h o.op) (blOf_mem (h.fut hW) _) (h.bas.up.fut hW), hc, ?_, List.prefix_append _ _, (h.grow vs hn).put o.dst (fun _ => ⟨rfl, ok⟩), hT'⟩
   cases o.dst <;> exact ⟨rfl, fun _ h => h⟩
  cases an with
  | one s =>
   obtain ⟨t1, hc, rfl⟩ := Option.map_eq_some_iff.1 hq
   exact fin s t1 hc hT
  | two s s' =>
   obtain ⟨t1, hc, hq⟩ := Option.bind_eq_some_iff.1 hq
   obtain ⟨t2, hc2, rfl⟩ := Option.map_eq_some_iff.1 hq
   rcases hT with hT | hT
   ·exact fin s t1 hc hT
   ·exact fin s' t2 hc2 hT
  | fresh s q => cases hq

theorem canEnter_ok {f : FuncId} (h : canEnter P f = true) (args : Array Value) (W : World) : (callFunc f args).run P W = .ok (.enter f args) W := by
 unfold canEnter at h
 split at h
 ·rename_i fn hf
  simp only [Bool.and_eq_true, Bool.not_eq_true'] at h
  have hb : fn.body.isNone = false := by cases hb : fn.body <;> simp_all
  simp only [callFunc, Sem.run_bind, run_program, Result.andThen_ok, hf, h.2, hb, Bool.false_eq_true, if_false, Sem.run_pure]
 ·cases h

theorem calleeS_ok (h : Den w0 M β st env gs a w) {o : Oper} {ga : FuncId × List Leaf} (hc : calleeS P st o = some ga) (W : World) :
 (execOp a.eval o).run P W = .ok (.enter ga.1 (ga.2.map (Leaf.den env gs)).toArray) W := by
 unfold calleeS at hc
 split at hc
 ·rename_i c hop
  split at hc
  ·rename_i f hf
   split at hc
   ·rename_i g caps hx
    split at hc
    ·rename_i hen
     obtain ⟨args, ha, rfl⟩ := Option.map_eq_some_iff.1 hc
     have e := (h.opd hx (by simp)).1
     simp only [SV.den, Leaf.den, Atom.den] at e
     obtain ⟨h1, _⟩ := leafs_ok h _ _ ha
     have ea : c.args.map a.eval = (args.map (Leaf.den env gs)).toArray := by apply Array.ext'; simpa using h1
     unfold execOp
     simp only [hop, resolve, hf, e, ea, Deferred.ofValue, Sem.run_bind, Sem.run_pure, Result.andThen_ok, invoke]
     have e2 : (#[] ++ (args.map (Leaf.den env gs)).toArray ++ (caps.map fun c => Value.pointer (some ⟨gs.getD c.1 0, c.2, none⟩)).toArray) = ((args ++ caps.map fun c => Leaf.atom (.ptr c.1 c.2)).map (Leaf.den env gs)).toArray := by
      apply Array.ext'; simp [Leaf.den, Atom.den]
     rw [e2]
     exact canEnter_ok hen _ _
    ·cases hc
   ·rename_i g ks hx
    split at hc
    ·rename_i hen
     obtain ⟨args, ha, rfl⟩ := Option.map_eq_some_iff.1 hc
     have e := (h.opd hx (by simp)).1
     simp only [SV.den, Leaf.den, Atom.den] at e
     obtain ⟨h1, _⟩ := leafs_ok h _ _ ha
     have ea : c.args.map a.eval = (args.map (Leaf.den env gs)).toArray := by apply Array.ext'; simpa using h1
     unfold execOp
     simp only [hop, resolve, hf, e, ea, Deferred.ofValue, Sem.run_bind, Sem.run_pure, Result.andThen_ok, invoke]
     have e2 : (#[Value.agg (ks.flatMap (mden env)).toArray] ++ (args.map (Leaf.den env gs)).toArray ++ #[]) = ((Leaf.agg (ks.map mseg) :: args).map (Leaf.den env gs)).toArray := by
      apply Array.ext'; simp [Leaf.den, catS_flat, var1_flat]
     rw [e2]
     exact canEnter_ok hen _ _
    ·cases hc
   ·cases hc
  ·cases hc
 ·cases hc

def Kin2 (st st' : Sym) (env env' : List Value) (W w' : World) : Prop := st'.dep = st.dep ∧ ∀ r ∈ st'.rows, ∀ v g, env'[r.kv]? = some v → v.ownBlock = some g → (∃ q ∈ st.rows, ∃ u, env[q.kv]? = some u ∧ u.ownBlock = some g) ∨ (W.heap.size ≤ g ∧ g < w'.heap.size)
theorem Kin.two {st' : Sym} {W w' : World} (h : Kin st st') (hd : ∀ r ∈ st.rows, RowIn w0 w env r) (he : env <+: env') : Kin2 st st' env env' W w' :=
 ⟨h.1, fun r hr v g hv hg => .inl ⟨r, h.2 r hr, v, (hd r (h.2 r hr)).back he hv, hg⟩⟩
def CallOut (P : Program) (w0 : World) (M : Marks) (R : Ending → World → Prop) (L : List (List Value → Base → Prop)) (k : Sym → Option Tree) (β : Base) (st : Sym) (env : List Value) (gs : List Nat) (rows : List RowS) (W : World) (a' : Act) (w' : World) : Prop :=
 Fut W w' ∧ ∃ st' t' env' gs2 β', k st' = some t' ∧ Kin2 st st' env env' W w' ∧ env <+: env' ∧ (∀ g ∈ gs2, W.heap.size ≤ g ∧ g < w'.heap.size) ∧ Den w0 M β' st' env' (gs ++ gs2) a' w' ∧ TWb P w0 R t' L env' (gs ++ gs2) β' ∧
  β'.w.heap.size ≤ w'.heap.size ∧ ∀ g, g < W.heap.size → (g < β.w.heap.size → β.x g) → (∀ r ∈ rows, ∀ v, env[r.kv]? = some v → v.ownBlock ≠ some g) → β'.x g

theorem callC0_ok {o : Oper} {k : Sym → Option Tree} {t : Tree} (hq : callC0 P orc st o k = some t) {W : World} (hd : Den w0 M β st env gs a W) (hT : TWb P w0 R t L env gs β) :
 o.wp P a W (CallOut P w0 M R L k β st env gs [] W) Q := by
 unfold callC0 at hq
 obtain ⟨ga, hga, hq⟩ := Option.bind_eq_some_iff.1 hq
 obtain ⟨an, _, hq⟩ := Option.bind_eq_some_iff.1 hq
 unfold Oper.wp
 rw [calleeS_ok hd hga W, Oper.upon_enter]
 have hst := blOf_mem hd (ga.2.any (Leaf.looks st))
 have hup := hd.bas.up
 have fin : ∀ (s : Spec) (t1 : Tree), call1 st o s k = some t1 → ∀ e w', Gives P ga.1 (ga.2.map (Leaf.den env gs)) W β env gs (s.r.shift st.n st.blocks.length) s.n (shiftB st.n st.blocks.length s.nb) (TWb P w0 R t1 L) e w' →
  (match e, w' with
    | .returned v, w'' => CallOut P w0 M R L k β st env gs [] W (a.put o.dst v) w''
    | .panicked chain, w'' => Q (.panic chain) a w''
    | .outgrown, _ => LetsOut Q) := by
  intro s t1 hc e w' hg
  obtain ⟨vs, gs2, hn, hl, rfl, ok, okb, hF, hNB, hT'⟩ := hg
  have hb : ∀ g ∈ gs2, W.heap.size ≤ g ∧ g < w'.heap.size := by
   intro g hg
   obtain ⟨i, hi⟩ := List.mem_iff_getElem?.1 hg
   have hlt : i < (shiftB st.n st.blocks.length s.nb).length := by rw [← hl]; exact (List.getElem?_eq_some_iff.1 hi).1
   have hm : (g, catS (env ++ vs) (gs ++ gs2) (shiftB st.n st.blocks.length s.nb)[i].1, (shiftB st.n st.blocks.length s.nb)[i].2) ∈ bsA (env ++ vs) (gs ++ gs2) gs2 (shiftB st.n st.blocks.length s.nb) := by
    refine List.mem_of_getElem? (i := i) ?_
    unfold bsA
    rw [List.getElem?_zipWith, hi, List.getElem?_eq_getElem hlt]
   have := hNB.1 _ hm
   exact ⟨this.1, this.2.lt⟩
  have far : ∀ g, g < W.heap.size → g ∉ gs2 := fun g h1 hg2 => by have := (hb g hg2).1; omega
  refine ⟨hF, _, t1, env ++ vs, gs2, β.next W w' gs2, hc, ?_, List.prefix_append _ _, hb, ?_, hT', Nat.le_refl _, fun g h1 h2 _ => .inl ⟨h1, h2⟩⟩
  ·exact Kin.two (by cases o.dst <;> exact ⟨rfl, fun _ h => h⟩) hd.rws.own (List.prefix_append _ _)
  ·refine Den.put ?_ o.dst (fun _ => ⟨rfl, ok⟩)
   have hd' := (hd.grow vs hn).fut hF
   have hd2 : Den w0 M (β.next W w' gs2) (st.grow s.n) (env ++ vs) gs a w' := hd'.base ⟨⟨Nat.le_refl _, fun _ _ _ => rfl⟩, fun k hk _ => .inl ⟨by
    rcases hk with hk | ⟨r, hr, v, hv, hg⟩
    ·exact (hd.gs_lt k hk).2
    ·have hr' := hd.rws.own r hr
     exact (hr'.lt (hr'.back (List.prefix_append _ _) hv) hg).2, fun hlt => hd'.bas.own k hk hlt⟩⟩ (fun m hm hx _ => .inl ⟨hd.df.lt hm, hx⟩)
   refine Den.blk hd2 gs2 _ hl okb (fun x hx => ⟨?_, (hNB.1 x hx).2⟩) hNB.2 (fun g hg => far g (hd.gs_lt g hg).2) (fun r hr v g hv hg => far g ?_) (fun g hg _ => .inr hg)
   ·have := (hNB.1 x hx).1; have := hd.mem.below.size; omega
   ·have hr' := hd.rws.own r hr
    exact (hr'.lt (hr'.back (List.prefix_append _ _) hv) hg).2
 cases an with
 | one s =>
  obtain ⟨t1, hc, rfl⟩ := Option.map_eq_some_iff.1 hq
  exact Calls.mono (hT W hst hup) (fin s t1 hc)
 | two s s' =>
  obtain ⟨t1, hc, hq⟩ := Option.bind_eq_some_iff.1 hq
  obtain ⟨t2, hc2, rfl⟩ := Option.map_eq_some_iff.1 hq
  refine Calls.mono (hT W hst hup) fun e w' he => ?_
  rcases he with he | he
  ·exact fin s t1 hc e w' he
  ·exact fin s' t2 hc2 e w' he
 | fresh s q =>
  obtain ⟨t1, hc, rfl⟩ := Option.map_eq_some_iff.1 hq
  refine Calls.mono (hT W hst hup) fun e w' he => ?_
  obtain ⟨vs, hn, rfl, ok, hF, hin, hkv, hT'⟩ := he
  have hd' := hd.fut hF
  have hold : ∀ k, OwnB env gs st.rows k → k < W.heap.size := fun k hk => by
   rcases hk with hk | ⟨r, hr, v, hv, hg⟩
   ·exact (hd.gs_lt k hk).2
   ·exact ((hd.rws.own r hr).lt hv hg).2
  refine ⟨hF, _, t1, env ++ vs, [], β.nextR W w' (env ++ vs)[(freshR st q).kv]?, hc, ?_, List.prefix_append _ _, by simp, ?_, by rw [List.append_nil]; exact hT', Nat.le_refl _, fun g h1 h2 _ => .inl ⟨h1, h2⟩⟩
  ·refine ⟨by cases o.dst <;> rfl, fun r hr v g hv hg => ?_⟩
   have hr' : r ∈ st.rows ++ [freshR st q] := by cases hdst : o.dst <;> (rw [hdst] at hr; exact hr)
   rcases List.mem_append.1 hr' with hr | hr
   ·exact .inl ⟨r, hr, v, (hd.rws.own r hr).back (List.prefix_append _ _) hv, hg⟩
   ·simp only [List.mem_singleton] at hr; subst hr
    exact .inr (hin.lt hv hg)
  ·rw [List.append_nil]
   refine Den.put ?_ o.dst (fun _ => ⟨rfl, ok⟩)
   have hd2 : Den w0 M (β.nextR W w' (env ++ vs)[(freshR st q).kv]?) st env gs a w' := hd'.base ⟨⟨Nat.le_refl _, fun _ _ _ => rfl⟩, fun k hk _ => .inl ⟨hold k hk, fun hlt => hd.bas.own k hk hlt⟩⟩ (fun m hm hx _ => .inl ⟨hd.df.lt hm, hx⟩)
   have hw0 : w0.heap.size ≤ W.heap.size := hd.mem.below.size
   refine Den.addR hd2 vs hn (freshR st q) ?_ fun v g hv hg => ?_
   ·obtain ⟨v, cs, m, e1, e2, e3, e4⟩ := hin
    refine ⟨v, cs, m, e1, e2, e3, e4.1, ?_⟩
    rcases e4.2 with hh | ⟨g, cap, cur, f1, f2, f3⟩
    ·exact .inl hh
    ·exact .inr ⟨g, cap, cur, f1, by omega, f3⟩
   ·have hlt := hin.lt hv hg
    refine ⟨fun hx => by have := (hd.gs_lt g hx).2; omega, fun r hr u hu hgu => by have := hold g (.inr ⟨r, hr, u, hu, hgu⟩); omega, fun _ => .inr ⟨hlt.1, v, hv, hg⟩⟩

theorem Sym.less_rows (st : Sym) (r : RowS) : ∀ q ∈ (st.less r).rows, q ∈ st.rows ∧ q ≠ r := fun q hq => ⟨(List.mem_filter.1 hq).1, by have := (List.mem_filter.1 hq).2; simpa using this⟩
theorem rows_apart {rows : List RowS} (hp : rows.Pairwise fun r s => ∀ v u g, env[r.kv]? = some v → env[s.kv]? = some u → v.ownBlock = some g → u.ownBlock ≠ some g) {r q : RowS} (hr : r ∈ rows) (hq : q ∈ rows) (hne : q ≠ r) {v u : Value} {g : Nat}
 (hv : env[r.kv]? = some v) (hu : env[q.kv]? = some u) (hg : v.ownBlock = some g) : u.ownBlock ≠ some g := by
 induction rows with
 | nil => cases hr
 | cons y l ih =>
  obtain ⟨p1, p2⟩ := List.pairwise_cons.1 hp
  rcases List.mem_cons.1 hr with rfl | hr2
  ·rcases List.mem_cons.1 hq with rfl | hq2
   ·exact absurd rfl hne
   ·exact p1 q hq2 v u g hv hu hg
  ·rcases List.mem_cons.1 hq with rfl | hq2
   ·exact fun e => p1 r hr2 u v g hu hv e hg
   ·exact ih p2 hr2 hq2
theorem Den.less (h : Den w0 M β st env gs a w) {r : RowS} (hr : r ∈ st.rows) : Den w0 M (β.frz w env[r.kv]?) (st.less r) env gs a w := by
 have hs := Sym.less_rows st r
 refine ⟨h.n, h.gl, h.sl, h.slots, h.mem, h.bok, h.df.base (fun m _ hk ho hx _ => ⟨(Array.getElem?_eq_some_iff.1 hk).1, hx, fun u hu hg => by
  obtain ⟨v, cs, n, e1, _, _, e4⟩ := h.rws.own r hr
  rw [e1] at hu; cases hu
  rcases e4.2 with ⟨rfl, _⟩ | ⟨g, cap, cur, rfl, _, hgg, _⟩
  ·cases hg
  ·cases hg; rw [hgg] at hk; injection hk with hk; rw [← hk] at ho; cases ho⟩), ⟨fun q hq => h.rws.own q (hs q hq).1, fun q hq => h.rws.gs q (hs q hq).1, h.rws.pw.sublist List.filter_sublist⟩, ⟨⟨Nat.le_refl _, fun _ _ _ => rfl⟩, fun k hk hlt => ?_⟩⟩
 have hk' : OwnB env gs st.rows k := by
  rcases hk with hk | ⟨q, hq, v, hv, hg⟩
  ·exact .inl hk
  ·exact .inr ⟨q, (hs q hq).1, v, hv, hg⟩
 refine ⟨hlt, h.bas.own k hk', fun u hu hg => ?_⟩
 rcases hk with hk | ⟨q, hq, v, hv, hgv⟩
 ·exact h.rws.gs r hr u k hu hg hk
 ·exact rows_apart h.rws.pw hr (hs q hq).1 (hs q hq).2 hu hv hg hgv

theorem frzC_ok {o : Oper} {W : World} {kk : Sym → Option Tree} : ∀ (l : List RowS) (β : Base) (st : Sym) (t : Tree), frzC l st (fun st' => callC0 P orc st' o kk) = some t → Den w0 M β st env gs a W → TWb P w0 R t L env gs β →
 o.wp P a W (CallOut P w0 M R L kk β st env gs st.rows W) Q
 | [], β, st, t, hq, h, hT => by
  refine Oper.wp_mono (fun a' w' ⟨h1, st', t', env', gs2, β', h2, h3, h4, h5, h6, h7, h8, h9⟩ => ?_) (callC0_ok (Q := Q) hq h hT)
  exact ⟨h1, st', t', env', gs2, β', h2, h3, h4, h5, h6, h7, h8, fun g q1 q2 _ => h9 g q1 q2 (fun r hr => by cases hr)⟩
 | r :: l, β, st, t, hq, h, hT => by
  simp only [frzC] at hq
  split at hq
  ·rename_i hc
   obtain ⟨t1, h1, rfl⟩ := Option.map_eq_some_iff.1 hq
   have hr : r ∈ st.rows := by simpa using hc
   have hT' := hT W (blOf_mem h true) h.bas.up
   refine Oper.wp_mono (fun a' w' ⟨h1, st', t', env', gs2, β', h2, h3, h4, h5, h6, h7, h8, h9⟩ => ?_) (frzC_ok l _ _ t1 h1 (h.less hr) hT')
   exact ⟨h1, st', t', env', gs2, β', h2, ⟨h3.1, fun q hq v g hv hg => (h3.2 q hq v g hv hg).imp (fun ⟨p, hp, u, hu⟩ => ⟨p, (Sym.less_rows st r p hp).1, u, hu⟩) id⟩, h4, h5, h6, h7, h8, fun g q1 q2 q3 => h9 g q1 (fun _ => ⟨q1, q2, fun u hu => q3 r hr u hu⟩) (fun q hq => q3 q (Sym.less_rows st r q hq).1)⟩
  ·exact frzC_ok l β st t hq h hT

theorem frzG {kk : Sym → Option Tree} {w : World} {G : Prop} : ∀ (l : List RowS) (β : Base) (st : Sym) (t : Tree), frzC l st kk = some t → Den w0 M β st env gs a w → TWb P w0 R t L env gs β →
 (∀ β' st' t', kk st' = some t' → st'.slots = st.slots → st'.blocks = st.blocks → st'.n = st.n → st'.dep = st.dep → Den w0 M β' st' env gs a w → TWb P w0 R t' L env gs β' → G) → G
 | [], β, st, t, hq, h, hT, hG => hG β st t hq rfl rfl rfl rfl h hT
 | r :: l, β, st, t, hq, h, hT, hG => by
  simp only [frzC] at hq
  split at hq
  ·rename_i hc
   obtain ⟨t1, h1, rfl⟩ := Option.map_eq_some_iff.1 hq
   have hr : r ∈ st.rows := by simpa using hc
   exact frzG l _ _ t1 h1 (h.less hr) (hT w (blOf_mem h true) h.bas.up) hG
  ·exact frzG l β st t hq h hT hG
theorem callC_ok {o : Oper} {k : Sym → Option Tree} {t : Tree} (hq : callC P orc st o k = some t) (h : Den w0 M β st env gs a w) (hT : TWb P w0 R t L env gs β) {W : World} (hW : Fut w W) :
 o.wp P a W (CallOut P w0 M R L k β st env gs st.rows W) Q := by
 unfold callC at hq
 obtain ⟨ga, hga, hq⟩ := Option.bind_eq_some_iff.1 hq
 exact frzC_ok _ β st t hq (h.fut hW) hT

theorem rep_cells {v : Value} {z : List Value} {n : Nat} (hvc : v.cells = z.toArray) (c2 : z.length = n) (len : Nat) : ((Array.range (len * n)).map (v.cells[· % v.cells.size]!)) = (List.replicate len z).flatten.toArray := by
 apply Array.ext'
 rw [hvc]
 simp only [Array.toList_map, Array.toList_range, List.size_toArray, c2]
 apply List.ext_getElem?
 intro i
 have rep : ∀ (m i : Nat), (List.replicate m z).flatten[i]? = if i < m * n then z[i % n]? else none := by
  intro m
  induction m with
  | zero => intro i; simp
  | succ m ih =>
   intro i
   rw [List.replicate_succ, List.flatten_cons, List.getElem?_append]
   rw [c2]
   split
   ·rename_i hi
    rw [if_pos (by rw [Nat.succ_mul]; omega), Nat.mod_eq_of_lt hi]
   ·rename_i hi
    rw [ih, show i % n = (i - n) % n from (Nat.mod_eq_sub_mod (by omega))]
    by_cases hh : i - n < m * n
    ·rw [if_pos hh, if_pos (by rw [Nat.succ_mul]; omega)]
    ·rw [if_neg hh, if_neg (by rw [Nat.succ_mul]; omega)]
 rw [rep]
 simp only [List.getElem?_map]
 by_cases hi : i < len * n
 ·have hn0 : 0 < n := by rcases Nat.eq_zero_or_pos n with h0 | h0; · simp [h0] at hi
                         ·exact h0
  have hlt : i % n < z.length := by rw [c2]; exact Nat.mod_lt _ hn0
  rw [if_pos hi, List.getElem?_eq_getElem hlt]
  simp [hi, hlt]
 ·rw [if_neg hi]
  simp; omega
theorem mkS_ok {o : Oper} {m : List Seg × TypeId × Option Nat} (hm : mkS P st o.op = some m) (h : Den w0 M β st env gs a w) : Makes P o a (flat env gs m.1) m.2.1 m.2.2 ∧ ∀ s ∈ m.1, s.OK env gs := by
 unfold mkS at hm
 split at hm
 ·rename_i ty hop
  obtain ⟨z, hz, rfl⟩ := Option.map_eq_some_iff.1 hm
  obtain ⟨v, hv, hvc, hvo⟩ := zeroS_ok hz
  refine ⟨fun W => ?_, fun s hs => by simp only [List.mem_singleton] at hs; subst hs; exact hvo⟩
  have e : flat env gs [Seg.lit z] = z := by simp [flat, Seg.den]
  unfold execOp
  simp only [hop, Instr.alloc, Sem.run_bind, tyZero_run hv, Result.andThen_ok, newVar, newRow, hvc, e]
  rfl
 ·rename_i ty x hop
  obtain ⟨y, hy, rfl⟩ := Option.map_eq_some_iff.1 hm
  obtain ⟨e, ok⟩ := leafOf_ok h hy
  obtain ⟨s1, s2⟩ := Leaf.segs_ok ok
  refine ⟨fun W => ?_, s1⟩
  unfold execOp
  simp only [hop, e, Instr.box, newVar, newRow, s2]
  rfl
 ·rename_i ty len parts hop
  obtain ⟨el, hel, hm⟩ := Option.bind_eq_some_iff.1 hm
  obtain ⟨n, hn, hm⟩ := Option.bind_eq_some_iff.1 hm
  obtain ⟨z, hz, hm⟩ := Option.bind_eq_some_iff.1 hm
  split at hm
  ·rename_i hc
   simp only [Bool.and_eq_true, beq_iff_eq] at hc
   obtain ⟨h00, hp0⟩ := hc
   obtain rfl := Option.some.inj hm
   subst h00
   obtain rfl : parts = #[] := by apply Array.ext'; simpa using hp0
   refine ⟨fun W => ?_, fun s hs => by cases hs⟩
   unfold tySlc at hel
   split at hel
   ·rename_i el' hu
    cases hel
    unfold execOp
    simp only [hop]
    unfold Instr.buildSlice
    have c3' : ¬ ((0 : Nat) > 2 ^ 24) := by decide
    have e0 : (Array.map (fun (x : Nat × Operand) => (x.1, a.eval x.2)) #[]).toList = [] := by simp
    have e1 : Instr.fill (fun i => some (i * n, n)) (Array.map (fun x => (#[] : Array Value)[x % (#[] : Array Value).size]!) (Array.range 0)) [] = some #[] := by simp [Instr.fill]
    simp only [Sem.run_bind, run_underlying hu, Result.andThen_ok, tyN_run hn, if_neg c3', Nat.zero_mul, if_true, Sem.run_pure, e0, e1, newRow]
    rfl
   ·cases hel
  split at hm
  ·cases hm
  ·rename_i hc
   simp only [Bool.or_eq_true, beq_iff_eq, bne_iff_ne, ne_eq, decide_eq_true_eq, not_or, Decidable.not_not] at hc
   obtain ⟨⟨c1, c2⟩, c3⟩ := hc
   obtain ⟨pv, hpv, hm⟩ := Option.bind_eq_some_iff.1 hm
   obtain ⟨l, hl, rfl⟩ := Option.map_eq_some_iff.1 hm
   obtain ⟨v, hv, hvc, hvo⟩ := zeroS_ok hz
   obtain ⟨p1, p2⟩ := leavesOf_ok h _ _ hpv
   have hzo : ∀ s ∈ [Seg.lit (List.replicate len z).flatten], s.OK env gs := by
    intro s hs; simp only [List.mem_singleton] at hs; subst hs
    intro x hx
    obtain ⟨y, hy, hx⟩ := List.mem_flatten.1 hx
    rw [List.eq_of_mem_replicate hy] at hx
    exact hvo x hx
   obtain ⟨f1, f2⟩ := fillS_ok pv _ l hl hzo p2
   have hfl : flat env gs [Seg.lit (List.replicate len z).flatten] = (List.replicate len z).flatten := by simp [flat, Seg.den]
   rw [hfl] at f1
   refine ⟨fun W => ?_, f2⟩
   have e : (parts.map fun (x : Nat × Operand) => (x.1, a.eval x.2)).toList = pv.map (fun x => (x.1, x.2.den env gs)) := by simpa using p1
   have hz' := rep_cells hvc c2 len
   unfold tySlc at hel
   split at hel
   ·rename_i el' hu
    cases hel
    unfold execOp
    simp only [hop]
    unfold Instr.buildSlice
    have c3' : ¬ (len * n > 2 ^ 24) := c3
    simp only [Sem.run_bind, run_underlying hu, Result.andThen_ok, tyN_run hn, if_neg c3', if_neg c1, tyZero_run hv, Sem.run_pure, hz', e, f1, newRow]
    rfl
   ·cases hel
 ·rename_i ty kl l kc c hop
  obtain ⟨el, hel, hm⟩ := Option.bind_eq_some_iff.1 hm
  obtain ⟨i, hi, hm⟩ := Option.bind_eq_some_iff.1 hm
  obtain ⟨z, hz, hm⟩ := Option.bind_eq_some_iff.1 hm
  split at hm
  ·rename_i hc
   simp only [Bool.and_eq_true, decide_eq_true_eq, beq_iff_eq, bne_iff_ne, ne_eq] at hc
   obtain ⟨⟨⟨⟨⟨rfl, h0⟩, hb⟩, hc1⟩, hzl⟩, hs⟩ := hc
   cases hm
   obtain ⟨v, hv, hvc, hvo⟩ := zeroS_ok hz
   have hu : P.underlying ty = some (.slice el) := by
    unfold tySlc at hel
    split at hel
    ·rename_i el' hu; cases hel; exact hu
    ·cases hel
   have hiz : i.zero = some v := by unfold tyZero at hv; rw [hi] at hv; exact hv
   refine ⟨fun W => ?_, fun s hs' => ?_⟩
   ·have hr := run_make (P := P) W ty el i v hu hi hiz kl kc l l (by omega) (Int.le_refl _) (by omega) (by omega)
    have e : madeCells v.cells (l.toNat * i.size) = (List.replicate l.toNat z).flatten.toArray := rep_cells hvc hzl l.toNat
    have e2 : flat env gs [Seg.lit (List.replicate l.toNat z).flatten] = (List.replicate l.toNat z).flatten := by simp [flat, Seg.den]
    unfold execOp
    simp only [hop, Act.eval, hr, Sem.run_bind, Result.andThen_ok, Sem.run_pure, e, e2, madeV]
   ·simp only [List.mem_singleton] at hs'; subst hs'
    intro x hx
    obtain ⟨y, hy, hx⟩ := List.mem_flatten.1 hx
    rw [List.eq_of_mem_replicate hy] at hx
    exact hvo x hx
  ·cases hm
 ·cases hm

theorem mkxS_ok {o : Oper} {m : Nat × List Value × TypeId × Nat} (hm : mkxS P st o.op = some m) (h : Den w0 M β st env gs a w) {kd : IntKind} {n : Int} (hk : env[m.1]? = some (.int kd n)) (h0 : 0 ≤ n) (h1 : n ≤ 1000000) :
 Makes P o a (List.replicate n.toNat m.2.1).flatten m.2.2.1 (some n.toNat) ∧ (∀ x ∈ m.2.1, x.oneCell' = true) ∧ m.2.1.length = m.2.2.2 := by
 unfold mkxS at hm
 split at hm
 ·rename_i ty x y hop
  split at hm
  ·rename_i j j' hx hy
   obtain ⟨el, hel, hm⟩ := Option.bind_eq_some_iff.1 hm
   obtain ⟨i, hi, hm⟩ := Option.bind_eq_some_iff.1 hm
   obtain ⟨z, hz, hj⟩ := Option.bind_eq_some_iff.1 hm
   split at hj
   ·rename_i hc
    simp only [Bool.and_eq_true, decide_eq_true_eq, beq_iff_eq] at hc
    obtain ⟨⟨⟨rfl, hzl⟩, hs⟩, hb⟩ := hc
    cases hj
    obtain ⟨v, hv, hvc, hvo⟩ := zeroS_ok hz
    have hu : P.underlying ty = some (.slice el) := by
     unfold tySlc at hel
     split at hel
     ·rename_i el' hu; cases hel; exact hu
     ·cases hel
    have hiz : i.zero = some v := by unfold tyZero at hv; rw [hi] at hv; exact hv
    refine ⟨fun W => ?_, hvo, hzl⟩
    have ex := (h.opd hx (by simp)).1
    have ey := (h.opd hy (by simp)).1
    have eg : env.getD j undef = .int kd n := by simp [List.getD, hk]
    simp only [SV.den, Leaf.den, Atom.den, eg] at ex ey
    have hbn : (i.bytes : Int) * n ≤ 281474976710656 := by
     have h2 : (i.bytes : Int) ≤ 1000000 := by omega
     have h3 := Int.mul_le_mul h2 h1 h0 (by omega)
     omega
    have hr := run_make (P := P) W ty el i v hu hi hiz kd kd n n h0 (Int.le_refl _) hbn (by omega)
    have e : madeCells v.cells (n.toNat * i.size) = (List.replicate n.toNat z).flatten.toArray := rep_cells hvc hzl n.toNat
    unfold execOp
    simp only [hop, ex, ey, hr, Sem.run_bind, Result.andThen_ok, Sem.run_pure, e, madeV]
   ·cases hj
  ·cases hm
 ·cases hm
theorem rep_len {z : List Value} {n : Nat} (h : z.length = n) (m : Nat) : (List.replicate m z).flatten.length = m * n := by
 induction m with
 | zero => simp
 | succ m ih => rw [List.replicate_succ, List.flatten_cons, List.length_append, ih, h, Nat.succ_mul]; omega
theorem rep_one {z : List Value} (h : ∀ x ∈ z, x.oneCell' = true) (m : Nat) : ∀ x ∈ (List.replicate m z).flatten, x.oneCell' = true := by
 intro x hx
 obtain ⟨y, hy, hx⟩ := List.mem_flatten.1 hx
 rw [List.eq_of_mem_replicate hy] at hx
 exact h x hx
def MadeOK (P : Program) (w0 : World) (M : Marks) (R : Ending → World → Prop) (L : List (List Value → Base → Prop)) (k : Sym → Option Tree) (β : Base) (st : Sym) (env : List Value) (gs : List Nat) (g : Nat) (a' : Act) (W : World) : Prop :=
 ∃ st' t' env' gs', k st' = some t' ∧ st'.dep = st.dep ∧ env <+: env' ∧ gs <+: gs' ∧ (∀ x ∈ gs', x ∈ gs ∨ x = g) ∧
  (∀ r ∈ st'.rows, ∀ v b, env'[r.kv]? = some v → v.ownBlock = some b → (∃ q ∈ st.rows, ∃ u, env[q.kv]? = some u ∧ u.ownBlock = some b) ∨ b = g) ∧ Den w0 M β st' env' gs' a' W ∧ TWb P w0 R t' L env' gs' β
theorem makeC_ok {o : Oper} {k : Sym → Option Tree} {t : Tree} (hq : makeC P orc st o k = some t) (h : Den w0 M β st env gs a w) (hT : TWb P w0 R t L env gs β) :
 ∃ vs ty kd, Makes P o a vs ty kd ∧ ∀ W, Fut w W → ∀ g, w0.heap.size ≤ g → (g < β.w.heap.size → β.x g) → g ∉ gs → (∀ r ∈ st.rows, ∀ v, env[r.kv]? = some v → v.ownBlock ≠ some g) → Own W g vs ty →
  MadeOK P w0 M R L k β st env gs g (a.put o.dst (madeV kd g)) W := by
 unfold makeC at hq
 -- a row, of so many elements
 have row : ∀ (cs : List Value) (T : TypeId) (sz len : Nat) (t1 : Tree), cs.length = len * sz → len ≤ 1000000 → (∀ x ∈ cs, x.oneCell' = true) → Makes P o a cs T (some len) → k ((st.row2 T sz).put o.dst (.leaf (.atom (.var st.n)))) = some t1 →
  (∀ v : Value, SliceN v len → TWb P w0 R t1 L (env ++ [v, .agg cs.toArray]) gs β) → ∃ vs ty kd, Makes P o a vs ty kd ∧ ∀ W, Fut w W → ∀ g, w0.heap.size ≤ g → (g < β.w.heap.size → β.x g) → g ∉ gs → (∀ r ∈ st.rows, ∀ v, env[r.kv]? = some v → v.ownBlock ≠ some g) → Own W g vs ty →
  MadeOK P w0 M R L k β st env gs g (a.put o.dst (madeV kd g)) W := by
  intro cs T sz len t1 hcl hlen hone hmk hk hT1
  refine ⟨_, _, _, hmk, fun W hW g hg hgx hn hrow hO => ?_⟩
  have hkv : (env ++ [Value.slice (some ⟨g, 0, none⟩) len len, .agg cs.toArray])[st.n]? = some (.slice (some ⟨g, 0, none⟩) len len) := by rw [← h.n]; simp
  have hkc : (env ++ [Value.slice (some ⟨g, 0, none⟩) len len, .agg cs.toArray])[st.n + 1]? = some (.agg cs.toArray) := by rw [← h.n, List.getElem?_append_right (by omega)]; simp
  refine ⟨_, t1, env ++ [.slice (some ⟨g, 0, none⟩) len len, .agg cs.toArray], gs, hk, by cases o.dst <;> rfl, List.prefix_append _ _, List.prefix_refl _, fun x hx => .inl hx, fun r hr v b hv hb => ?_, ?_, hT1 _ ⟨_, _, rfl⟩⟩
  ·have hr' : r ∈ st.rows ++ [⟨st.n, st.n + 1, T, sz⟩] := by cases hdst : o.dst <;> (rw [hdst] at hr; exact hr)
   rcases List.mem_append.1 hr' with hr | hr
   ·exact .inl ⟨r, hr, v, (h.rws.own r hr).back (List.prefix_append _ _) hv, hb⟩
   ·simp only [List.mem_singleton] at hr; subst hr
    rw [hkv] at hv; cases hv
    exact .inr (by simpa [Value.ownBlock] using hb.symm)
  ·refine Den.put ?_ o.dst (fun _ => ?_)
   ·refine Den.addR (h.fut hW) [.slice (some ⟨g, 0, none⟩) len len, .agg cs.toArray] rfl ⟨st.n, st.n + 1, T, sz⟩ ⟨_, cs, len, hkv, hkc, hone, hcl, .inr ⟨g, len, cs.toArray, rfl, hg, hO, Nat.le_refl _, by unfold maxLen; omega, by simpa using hcl, by simp [← hcl]⟩⟩ fun v b hv hb => ?_
    rw [hkv] at hv; cases hv
    have hbg : g = b := by simpa [Value.ownBlock] using hb
    subst hbg
    exact ⟨hn, fun r hr u hu => hrow r hr u hu, hgx⟩
   ·have e : (env ++ [Value.slice (some ⟨g, 0, none⟩) len len, .agg cs.toArray]).getD st.n undef = .slice (some ⟨g, 0, none⟩) len len := by simp only [List.getD, hkv]; rfl
    exact ⟨by simp only [madeV, SV.den, Leaf.den, Atom.den, e], (List.getElem?_eq_some_iff.1 hkv).1, by rw [e]; rfl⟩
 split at hq
 ·unfold makeR at hq
  split at hq
  ·rename_i m hm
   obtain ⟨t1, hk, rfl⟩ := Option.map_eq_some_iff.1 hq
   obtain ⟨kd, n, hkn, h0, h1, hT1⟩ := hT
   obtain ⟨q1, q2, q3⟩ := mkxS_ok hm h hkn h0 h1
   exact row _ _ _ n.toNat t1 (rep_len q3 _) (by omega) (rep_one q2 _) q1 hk hT1
  ·obtain ⟨m, hm, hq⟩ := Option.bind_eq_some_iff.1 hq
   obtain ⟨len, hlen, hq⟩ := Option.bind_eq_some_iff.1 hq
   obtain ⟨sz, hsz, hq⟩ := Option.bind_eq_some_iff.1 hq
   split at hq
   ·rename_i hc
    simp only [Bool.and_eq_true, decide_eq_true_eq, beq_iff_eq, List.all_eq_true] at hc
    obtain ⟨⟨⟨c1, c2⟩, c3⟩, c4⟩ := hc
    obtain ⟨t1, hk, rfl⟩ := Option.map_eq_some_iff.1 hq
    obtain ⟨h1, h2⟩ := mkS_ok hm h
    rw [hlen] at h1
    have hl : (flat env gs m.1).length = len * sz := by rw [flat_len c1 h2]; exact c2
    refine row _ _ _ len t1 hl c4 (flat_ones h2 fun s hs => Seg.known_clean (c1 s hs)) h1 hk fun v hv => ?_
    have := hT v (by rw [catS_flat, hl, Nat.mul_div_cancel _ c3]; exact hv)
    rw [catS_flat] at this
    exact this
   ·cases hq
 obtain ⟨m, hm, hq⟩ := Option.bind_eq_some_iff.1 hq
 obtain ⟨t1, hk, rfl⟩ := Option.map_eq_some_iff.1 hq
 obtain ⟨h1, h2⟩ := mkS_ok hm h
 refine ⟨_, _, _, h1, fun W hW g hg hgx hn hrow hO => ⟨_, t1, env, gs ++ [g], hk, by cases o.dst <;> rfl, List.prefix_refl _, List.prefix_append _ _, fun x hx => ?_, fun r hr v b hv hb => .inl ⟨r, ?_, v, hv, hb⟩, ?_, hT g⟩⟩
 ·rcases List.mem_append.1 hx with hx | hx
  ·exact .inl hx
  ·exact .inr (by simpa using hx)
 ·cases hdst : o.dst <;> (rw [hdst] at hr; exact hr)
 ·have hp : env <+: env := List.prefix_refl _
  have hg' : gs <+: gs ++ [g] := List.prefix_append _ _
  refine Den.put ?_ o.dst (fun _ => ?_)
  ·refine Den.blk (h.fut hW) [g] [(m.1, m.2.1)] rfl ?_ ?_ ?_ ?_ (fun r hr v q hv hq hx => by
    simp only [List.mem_singleton] at hx; subst hx
    exact hrow r hr v hv hq) (fun x hx => by simp only [List.mem_singleton] at hx; subst hx; exact hgx)
   ·intro b hb s hs
    simp only [List.mem_singleton] at hb; subst hb
    exact (Seg.pre hp hg' (h2 s hs)).1
   ·intro x hx
    simp only [bsA, List.zipWith_cons_cons, List.zipWith_nil_left, List.mem_singleton] at hx
    subst hx
    refine ⟨hg, ?_⟩
    simp only [catS_flat, (flat_pre hp hg' h2).2]
    exact hO
   ·simp [bsA]
   ·intro x hx hx'
    simp only [List.mem_singleton] at hx'; subst hx'
    exact hn hx
  ·have e : (gs ++ [g]).getD st.blocks.length 0 = g := by rw [← h.gl]; simp [List.getD]
   have hl : st.blocks.length < (gs ++ [g]).length := by rw [← h.gl]; simp
   cases hk2 : m.2.2 with
   | none => exact ⟨by simp only [madeV, mkV, SV.den, Leaf.den, Atom.den, e], hl⟩
   | some c => exact ⟨by simp only [madeV, mkV, SV.den, Leaf.den, Atom.den, e], hl⟩

theorem storeC_ok {o : Oper} {k : Sym → Option Tree} {t : Tree} (hq : storeC P st o k = some t) (h : Den w0 M β st env gs a w) (hT : TWb P w0 R t L env gs β) {K : Act → World → Prop}
 (hK : ∀ st' t' env' a' w', w.heap.size ≤ w'.heap.size → k st' = some t' → st'.dep = st.dep → env <+: env' → Den w0 M β st' env' gs a' w' → TWb P w0 R t' L env' gs β → K a' w') : o.wp P a w K Q := by
 unfold storeC at hq
 split at hq
 ·rename_i ty p x hop
  -- a block turned in place
  have turn : ∀ (env2 : List Value) (st2 : Sym) (b : Nat) (blk : Blk) (l : List Seg), Den w0 M β st2 env2 gs a w → st2.blocks[b]? = some blk → (∀ s ∈ l, s.OK env2 gs) →
   Den w0 M β { st2 with blocks := st2.blocks.set b (l, blk.2) } env2 gs a (w.setRow (gs.getD b 0) (flat env2 gs l).toArray) := by
   intro env2 st2 b blk l hd hb q3
   have hO := hd.own hb (Fut.refl w)
   have hget := bsD_get (env := env2) hd.gl hb
   have hlb : b < st2.blocks.length := (List.getElem?_eq_some_iff.1 hb).1
   have hlt : b < gs.length := by rw [hd.gl]; exact hlb
   have hwr : Wrote (gs.getD b 0) w (w.setRow (gs.getD b 0) (flat env2 gs l).toArray) := ⟨rfl, rfl, rfl, by simp, fun k hk => Go.setRow_other w _ k _ hk⟩
   have hst := hd.mem.wrote b hget hwr (hO.setRow (flat env2 gs l))
   refine ⟨hd.n, by simp [hd.gl], hd.sl, hd.slots, ?_, ?_, hd.df.setRow hO _, hd.rws.turn (by
    have : gs[b]? = some (gs.getD b 0) := by simp [List.getD, List.getElem?_eq_getElem hlt]
    exact List.mem_of_getElem? this) _, ⟨⟨by simpa using hd.bas.up.size, fun k hk hx => ?_⟩, hd.bas.own⟩⟩
   rotate_left 2
   ·have hgm : gs.getD b 0 ∈ gs := by
     have : gs[b]? = some (gs.getD b 0) := by simp [List.getD, List.getElem?_eq_getElem hlt]
     exact List.mem_of_getElem? this
    rw [Go.setRow_other w _ k _ (fun e => hx (hd.bas.own k (.inl (e ▸ hgm)) hk))]
    exact hd.bas.up.block k hk hx
   ·have e : bsD env2 gs (st2.blocks.set b (l, blk.2)) = (bsD env2 gs st2.blocks).set b (gs.getD b 0, flat env2 gs l, blk.2) := by
     apply List.ext_getElem?
     intro i
     rw [List.getElem?_set]
     unfold bsD
     rw [List.getElem?_zipWith, List.getElem?_set]
     by_cases hi : b = i
     ·subst hi
      have hg : gs[b]? = some (gs.getD b 0) := by simp [List.getD, List.getElem?_eq_getElem hlt]
      simp [hg, hlb, hlt, catS_flat]
      exact (Nat.lt_min).2 ⟨hlt, hlb⟩
     ·rw [if_neg hi, if_neg hi, List.getElem?_zipWith]
    show St w0 _ (bsD env2 gs (st2.blocks.set b (l, blk.2)))
    rw [e]; exact hst
   ·intro b' hb' s hs
    rcases List.mem_or_eq_of_mem_set hb' with hb' | rfl
    ·exact hd.bok b' hb' s hs
    ·exact q3 s hs
  split at hq
  ·rename_i b off j sc hx
   obtain ⟨y, hy, hq⟩ := Option.bind_eq_some_iff.1 hq
   obtain ⟨n, hn, hq⟩ := Option.bind_eq_some_iff.1 hq
   obtain ⟨blk, hb, hq⟩ := Option.bind_eq_some_iff.1 hq
   split at hq
   ·rename_i hc
    simp only [Bool.and_eq_true, beq_iff_eq, List.all_eq_true] at hc
    obtain ⟨hcl0, hc⟩ := hc
    have hkc := fun s hs => Seg.known_clean (hc.1 s hs)
    obtain ⟨t1, hk, rfl⟩ := Option.map_eq_some_iff.1 hq
    obtain ⟨h1, hT'⟩ := (show _ ∧ _ from hT)
    simp only [catS_flat] at h1 hT'
    have ep := (h.opd hx (by simp)).1
    simp only [SV.den, Leaf.den, Atom.den] at ep
    obtain ⟨ey, oky⟩ := leafOf_ok h hy
    obtain ⟨s1, s2⟩ := Leaf.segs_ok oky
    have hlen : (flat env gs y.segs).length = n := by rw [flat_len hc.1 s1]; exact hc.2
    have hO := h.own hb (Fut.refl w)
    have hrun := run_storeVar_own (P := P) w (gs.getD b 0) (off + intN (env.getD j undef) * sc) blk.2 ty (flat env gs blk.1) (y.den env gs) (flat env gs y.segs) hO s2 (by rw [hlen]; exact hn) (by omega) (flat_ones s1 hkc)
    unfold Oper.wp execOp
    simp only [hop, ep, ey, Instr.storeAt, Instr.sureAddr, Sem.run_bind, Sem.run_pure, Result.andThen_ok, hrun, Oper.upon_skip]
    rw [hlen]
    generalize hcs : (flat env gs blk.1).take (off + intN (env.getD j undef) * sc) ++ flat env gs y.segs ++ (flat env gs blk.1).drop (off + intN (env.getD j undef) * sc + n) = cs at *
    have hcl : cs.length = (flat env gs blk.1).length := by rw [← hcs]; simp only [List.length_append, List.length_take, List.length_drop]; omega
    have hc1 : ∀ x ∈ cs, x.oneCell' = true := by
     rw [← hcs]
     intro x hx
     rcases List.mem_append.1 hx with hx | hx
     ·rcases List.mem_append.1 hx with hx | hx
      ·exact flat_ones (h.segs hb) hcl0 x (List.mem_of_mem_take hx)
      ·exact flat_ones s1 hkc x hx
     ·exact flat_ones (h.segs hb) hcl0 x (List.mem_of_mem_drop hx)
    have hgrow := h.grow [Value.agg cs.toArray] rfl
    have hgk : (env ++ [Value.agg cs.toArray])[st.n]? = some (.agg cs.toArray) := by rw [← h.n]; simp
    have hgd : (env ++ [Value.agg cs.toArray]).getD st.n undef = .agg cs.toArray := by simp [List.getD, hgk]
    have hfl : flat (env ++ [Value.agg cs.toArray]) gs [if blk.1.all Seg.known then Seg.whole st.n (segsLen blk.1) else .rest st.n] = cs := by
     have hcell : cellsAt (env ++ [Value.agg cs.toArray]) st.n = cs := by unfold cellsAt; rw [hgd]; rfl
     split <;> simp [flat, Seg.den, hcell]
    have hok : ∀ s ∈ [if blk.1.all Seg.known then Seg.whole st.n (segsLen blk.1) else .rest st.n], s.OK (env ++ [Value.agg cs.toArray]) gs := by
     intro s hs
     simp only [List.mem_singleton] at hs
     subst hs
     split
     ·rename_i hkn
      exact ⟨cs, hgk, by rw [hcl, flat_len (List.all_eq_true.1 hkn) (h.segs hb)], hc1⟩
     ·exact ⟨cs.length, cs, hgk, rfl, hc1⟩
    have ht := turn (env ++ [Value.agg cs.toArray]) (st.grow 1) b blk _ hgrow hb hok
    rw [hfl] at ht
    refine hK _ t1 _ _ _ (by simp) hk ?_ (List.prefix_append _ _) (Den.put ht o.dst (fun hh => absurd rfl hh)) hT'
    cases o.dst <;> rfl
   ·cases hq
  ·rename_i v0 off j sc hx
   obtain ⟨r, hr, hq⟩ := Option.bind_eq_some_iff.1 hq
   obtain ⟨y, hy, hq⟩ := Option.bind_eq_some_iff.1 hq
   obtain ⟨n, hn, hq⟩ := Option.bind_eq_some_iff.1 hq
   split at hq
   ·rename_i hc
    simp only [Bool.and_eq_true, beq_iff_eq, List.all_eq_true, decide_eq_true_eq] at hc
    obtain ⟨hc, hpos⟩ := hc
    have hkc := fun s hs => Seg.known_clean (hc.1 s hs)
    obtain ⟨t1, hk, rfl⟩ := Option.map_eq_some_iff.1 hq
    obtain ⟨h1, hT'⟩ := (show _ ∧ _ from hT)
    obtain ⟨hrm, rfl⟩ := rowKv_ok hr
    obtain ⟨v, cs, nn, e1, e2, e3, e4⟩ := h.rws.own r hrm
    have ep := (h.opd hx (by simp)).1
    have eg : env.getD r.kv undef = v := by simp [List.getD, e1]
    have ec : cellsAt env r.kc = cs := by simp [cellsAt, List.getD, e2, Value.cells]
    simp only [SV.den, Leaf.den, Atom.den, eg] at ep
    have ecat : catS env gs [.rest r.kc] = cs := by simp only [catS, Seg.den, ec]
    simp only [ecat, catS_flat env gs y.segs] at h1 hT'
    obtain ⟨ey, oky⟩ := leafOf_ok h hy
    obtain ⟨s1, s2⟩ := Leaf.segs_ok oky
    have hlen : (flat env gs y.segs).length = n := by rw [flat_len hc.1 s1]; exact hc.2
    obtain ⟨hcn, hnil | ⟨g, cap, cur, rfl, hbg, hgg, hncap, hcap, hcs, htk⟩⟩ := e4
    ·obtain ⟨rfl, rfl⟩ := hnil
     have : cs.length = 0 := by rw [hcn]; simp
     omega
    have hO : Own w g cur.toList r.T := by unfold Own; simpa using hgg
    have hnl : nn * r.sz ≤ cur.toList.length := by rw [Array.length_toList, hcs]; exact Nat.mul_le_mul_right _ hncap
    have hrun := run_storeVar_own (P := P) w g (off + intN (env.getD j undef) * sc) r.T ty cur.toList (y.den env gs) (flat env gs y.segs) hO s2 (by rw [hlen]; exact hn) (by rw [hlen]; omega) (flat_ones s1 hkc)
    unfold Oper.wp execOp
    simp only [hop, ep, ey, Instr.storeAt, Instr.sureAddr, Sem.run_bind, Sem.run_pure, Result.andThen_ok, addr_add, Nat.zero_add, hrun, Oper.upon_skip]
    rw [hlen]
    generalize hpo : off + intN (env.getD j undef) * sc = po at *
    have hnew : (cur.toList.take po ++ flat env gs y.segs ++ cur.toList.drop (po + n)).take (nn * r.sz) = cs.take po ++ flat env gs y.segs ++ cs.drop (po + n) := by
     have hAB : (cur.toList.take po ++ flat env gs y.segs).length = po + n := by rw [List.length_append, List.length_take, hlen]; omega
     rw [List.take_append, List.take_of_length_le (by omega), hAB, ← htk, List.take_take, Nat.min_eq_left (by omega), List.drop_take]
    generalize hnw : cs.take po ++ flat env gs y.segs ++ cs.drop (po + n) = nw at *
    have hnwl : nw.length = nn * r.sz := by rw [← hnw]; simp only [List.length_append, List.length_take, List.length_drop, hlen]; omega
    have hnw1 : ∀ x ∈ nw, x.oneCell' = true := by
     rw [← hnw]
     intro x hx
     rcases List.mem_append.1 hx with hx | hx
     ·rcases List.mem_append.1 hx with hx | hx
      ·exact e3 x (List.mem_of_mem_take hx)
      ·exact flat_ones s1 hkc x hx
     ·exact e3 x (List.mem_of_mem_drop hx)
    generalize hcu : cur.toList.take po ++ flat env gs y.segs ++ cur.toList.drop (po + n) = cu at *
    have hcul : cu.length = cap * r.sz := by rw [← hcu]; simp only [List.length_append, List.length_take, List.length_drop, hlen, Array.length_toList] at *; omega
    have hO2 : Own (w.setRow g cu.toArray) g cu r.T := hO.setRow cu
    have hgrow := h.grow [Value.agg nw.toArray] rfl
    have hp1 : env <+: env ++ [Value.agg nw.toArray] := List.prefix_append _ _
    have hgk : (env ++ [Value.agg nw.toArray])[st.n]? = some (.agg nw.toArray) := by rw [← h.n]; simp
    have hgv := getQ_pre hp1 e1
    have hother : ∀ q ∈ st.rows, q ≠ r → ∀ u, env[q.kv]? = some u → u.ownBlock ≠ some g := fun q hqm hqr u hu => rows_apart h.rws.pw hrm hqm hqr e1 hu rfl
    have hfilt : ∀ q ∈ st.rows.filter (fun s => s != r), q ∈ st.rows ∧ q ≠ r := fun q hq => ⟨(List.mem_filter.1 hq).1, by have := (List.mem_filter.1 hq).2; simpa using this⟩
    have hgx : g < β.w.heap.size → β.x g := fun hlt => h.bas.own g (.inr ⟨r, hrm, _, e1, rfl⟩) hlt
    have hsz : (w.setRow g cu.toArray).heap.size = w.heap.size := by simp
    refine hK _ t1 (env ++ [Value.agg nw.toArray]) _ _ (by simp) hk (by cases o.dst <;> rfl) hp1 (Den.put (v := .any) ?_ o.dst (fun hh => absurd rfl hh)) hT'
    refine ⟨hgrow.n, hgrow.gl, hgrow.sl, hgrow.slots, ?_, hgrow.bok, hgrow.df.setRow hO _, ⟨fun q hq => ?_, fun q hq u b hu hb => ?_, ?_⟩, ⟨⟨by rw [hsz]; exact h.bas.up.size, fun b hb hbx => ?_⟩, fun b hb hlt => ?_⟩⟩
    ·have hm := hgrow.mem
     refine ⟨Below.setRow hm.below hbg _, fun x hx => ⟨(hm.own x hx).1, (hm.own x hx).2.setRow_other g _ fun e => ?_⟩, hm.apart⟩
     obtain ⟨i, hi⟩ := List.mem_iff_getElem?.1 hx
     unfold bsD at hi
     rw [List.getElem?_zipWith] at hi
     cases hgi : gs[i]? with
     | none => rw [hgi] at hi; simp at hi
     | some g' =>
      cases hbi : (st.grow 1).blocks[i]? with
      | none => rw [hgi, hbi] at hi; simp at hi
      | some blk =>
       rw [hgi, hbi] at hi
       simp only [Option.some.injEq] at hi
       subst hi
       exact h.rws.gs r hrm _ g e1 rfl (e ▸ List.mem_of_getElem? hgi)
    ·rcases List.mem_append.1 hq with hq | hq
     ·obtain ⟨hqm, hqr⟩ := hfilt q hq
      obtain ⟨u, us, m, p1, p2, p3, p4⟩ := h.rws.own q hqm
      refine ⟨u, us, m, getQ_pre hp1 p1, getQ_pre hp1 p2, p3, p4.1, ?_⟩
      rcases p4.2 with hn | ⟨g', cap', cur', rfl, b1, b2, rest⟩
      ·exact .inl hn
      ·refine .inr ⟨g', cap', cur', rfl, b1, ?_, rest⟩
       rw [Go.setRow_other w g g' _ (fun e => hother q hqm hqr _ p1 (by simp [Value.ownBlock, e]))]; exact b2
     ·simp only [List.mem_singleton] at hq; subst hq
      exact ⟨_, nw, nn, hgv, hgk, hnw1, hnwl, .inr ⟨g, cap, cu.toArray, rfl, hbg, hO2, hncap, hcap, by simpa using hcul, by simpa using hnew⟩⟩
    ·rcases List.mem_append.1 hq with hq | hq
     ·have hqm := (hfilt q hq).1
      exact h.rws.gs q hqm u b ((h.rws.own q hqm).back hp1 hu) hb
     ·simp only [List.mem_singleton] at hq; subst hq
      rw [hgv] at hu; cases hu
      exact h.rws.gs r hrm _ b e1 hb
    ·refine List.pairwise_append.2 ⟨pw_mem (h.rws.pw.sublist List.filter_sublist) fun q hq s hs hp u u' b hu hu' => hp u u' b ((h.rws.own q (hfilt q hq).1).back hp1 hu) ((h.rws.own s (hfilt s hs).1).back hp1 hu'), List.pairwise_singleton _ _, fun q hq s hs u u' b hu hu' hb => ?_⟩
     simp only [List.mem_singleton] at hs; subst hs
     rw [hgv] at hu'; cases hu'
     obtain ⟨hqm, hqr⟩ := hfilt q hq
     intro hb'
     have hbg' : g = b := by simpa [Value.ownBlock] using hb'
     subst hbg'
     exact hother q hqm hqr u ((h.rws.own q hqm).back hp1 hu) hb
    ·rw [Go.setRow_other w g b _ (fun e => hbx (e ▸ hgx (e ▸ hb)))]
     exact h.bas.up.block b hb hbx
    ·rcases hb with hb | ⟨q, hq, u, hu, hbu⟩
     ·exact h.bas.own b (.inl hb) hlt
     ·rcases List.mem_append.1 hq with hq | hq
      ·have hqm := (hfilt q hq).1
       exact h.bas.own b (.inr ⟨q, hqm, u, (h.rws.own q hqm).back hp1 hu, hbu⟩) hlt
      ·simp only [List.mem_singleton] at hq; subst hq
       rw [hgv] at hu; cases hu
       exact h.bas.own b (.inr ⟨r, hrm, _, e1, hbu⟩) hlt
   ·cases hq
  obtain ⟨bo, hbo, hq⟩ := Option.bind_eq_some_iff.1 hq
  obtain ⟨y, hy, hq⟩ := Option.bind_eq_some_iff.1 hq
  obtain ⟨n, hn, hq⟩ := Option.bind_eq_some_iff.1 hq
  obtain ⟨blk, hb, hq⟩ := Option.bind_eq_some_iff.1 hq
  split at hq
  ·rename_i hc
   simp only [Bool.and_eq_true, beq_iff_eq, List.all_eq_true] at hc
   obtain ⟨l, hl, hq⟩ := Option.bind_eq_some_iff.1 hq
   obtain ⟨ep, hlt⟩ := ptrOf_ok h hbo
   obtain ⟨ey, oky⟩ := leafOf_ok h hy
   obtain ⟨s1, s2⟩ := Leaf.segs_ok oky
   obtain ⟨q1, q2, q3⟩ := putS_ok hl (h.segs hb) s1
   have hlen : (flat env gs y.segs).length = n := by rw [flat_len hc.1 s1]; exact hc.2
   have hO := h.own hb (Fut.refl w)
   have hrun := run_storeVar_own (P := P) w (gs.getD bo.1 0) bo.2 blk.2 ty (flat env gs blk.1) (y.den env gs) (flat env gs y.segs) hO s2 (by rw [hlen]; exact hn) (by omega) (flat_ones s1 (fun s hs => Seg.known_clean (hc.1 s hs)))
   unfold Oper.wp execOp
   simp only [hop, ep, ey, Instr.storeAt, Instr.sureAddr, Sem.run_bind, Sem.run_pure, Result.andThen_ok, hrun, Oper.upon_skip]
   rw [hlen, ← q1]
   refine hK _ t env _ _ (by simp) hq ?_ (List.prefix_refl _) (Den.put (turn env st bo.1 blk l h hb q3) o.dst (fun hh => absurd rfl hh)) hT
   cases o.dst <;> rfl
  ·cases hq
 ·cases hq

def restR (st : Sym) (m : Option RowS) : List RowS := match m with | some r => st.rows.filter (fun s => s != r) | none => st.rows
theorem row_side {m1 : Option RowS} {el : TypeId} {sz : Nat} {s : Operand} (h : Den w0 M β st env gs a w) (hm : toRow st el sz s = some m1) :
 ∃ v cs nn, a.eval s = v ∧ w.ownsRow w0.heap.size el sz v nn cs ∧ (∀ g, v.ownBlock = some g → g ∉ gs) ∧ (∀ g, v.ownBlock = some g → g < β.w.heap.size → β.x g) ∧
  (∀ r ∈ restR st m1, ∀ u, env[r.kv]? = some u → u.ownBlock = none ∨ u.ownBlock ≠ v.ownBlock) ∧
  (match m1.map RowS.kc with | some k => cellsAt env k | none => []) = cs ∧ (∀ x ∈ cs, x.oneCell' = true) := by
 unfold toRow at hm
 split at hm
 ·rename_i hsl
  cases hm
  have es := (h.opd hsl (by simp)).1
  simp only [SV.den, Leaf.den, Atom.den] at es
  refine ⟨_, [], 0, es, World.ownsRow_nil _ _ _ _, fun g hg => by simp [Value.ownBlock] at hg, fun g hg => by simp [Value.ownBlock] at hg, fun r hr u hu => ?_, rfl, by simp⟩
  cases hb : u.ownBlock with
  | none => exact .inl rfl
  | some g => exact .inr (by simp [Value.ownBlock])
 ·rename_i kv hsl
  obtain ⟨r, hr, hm⟩ := Option.bind_eq_some_iff.1 hm
  split at hm
  ·rename_i hrt
   simp only [Bool.and_eq_true, beq_iff_eq] at hrt
   cases hm
   have hrm := List.mem_of_find?_eq_some hr
   have hrk : r.kv = kv := by have := List.find?_some hr; simpa using this
   subst hrk
   obtain ⟨v, cs, nn, h1, h2, h3, h4⟩ := h.rws.own r hrm
   have es := (h.opd hsl (by simp)).1
   simp only [SV.den, Leaf.den, Atom.den] at es
   have eg : env.getD r.kv undef = v := by simp [List.getD, h1]
   rw [eg] at es
   have ec : cellsAt env r.kc = cs := by simp [cellsAt, List.getD, h2, Value.cells]
   refine ⟨v, cs, nn, es, by rw [← hrt.1, ← hrt.2]; exact h4, fun g hg => h.rws.gs r hrm v g h1 hg, fun g hg hlt => h.bas.own g (.inr ⟨r, hrm, v, h1, hg⟩) hlt, fun s hs u hu => ?_, ec, h3⟩
   have hs' := List.mem_filter.1 hs
   have hne : s ≠ r := by simpa using hs'.2
   cases hb : u.ownBlock with
   | none => exact .inl rfl
   | some g => exact .inr fun e => rows_apart h.rws.pw hrm hs'.1 hne h1 hu e.symm hb
  ·cases hm
 ·cases hm

theorem run_append_none (w : World) (base : Nat) (t ty e : TypeId) (i : TypeInfo) (z : Value) (size bytes : Nat) (ht : P.underlying t = some (.slice e)) (hi : P.info? e = some i) (hz : i.zero = some z)
 (hsize : i.size = size) (hby : i.bytes = bytes) (hzs : z.cells.size = size) (hsz : 0 < size) (v : Value) (n : Nat) (xs : List Value) (hown : w.ownsRow base e size v n xs) (c : Nat)
 (h63 : n + 0 ≤ maxLen) (hbytes : (n + 0) * bytes ≤ 140737488355328) (hbase : base ≤ w.heap.size) :
 ∃ v' w', (Builtin.append_ #[t, t] ty #[v, .slice none 0 c]).run P w = .ok v' w' ∧ w'.ownsRow base e size v' (n + 0) (xs ++ []) ∧ w.grownBy w' v.ownBlock ∧
  (v' = .slice none 0 0 ↔ v = .slice none 0 0 ∧ 0 = 0) ∧ (v'.ownBlock = v.ownBlock ∨ v'.ownBlock = some w.heap.size) := by
 obtain ⟨v', w', hr, h⟩ := run_append_own_at (P := P) w base t ty e i z size bytes ht hi hz hsize hby hzs hsz v n xs hown ⟨0, 0, none⟩ 0 c [] (by simp) (fun j u hu => by simp at hu) (fun u hu => by cases hu) h63 hbytes hbase
 refine ⟨v', w', ?_, h⟩
 rw [← hr]
 rcases hown.2 with ⟨rfl, rfl⟩ | ⟨g, cap, cur, rfl, hbg, hg, hnc, hcm, hcs, htake⟩
 ·simp [Builtin.append_, run_underlying ht, sizeOf, typeInfo, hi, Builtin.lenOf, Builtin.firstCells, loadCells, loadCellsFrom]
 ·simp [Builtin.append_, run_underlying ht, sizeOf, typeInfo, hi, Builtin.lenOf, Builtin.firstCells, loadCells, loadCellsFrom, hnc]
theorem app_core {o : Oper} {k : Sym → Option Tree} {t1 : Tree} (h : Den w0 M β st env gs a w) {K : Act → World → Prop} {s x : Operand} {ty el : TypeId} {i : TypeInfo} {z : Value} {m1 : Option RowS}
 (hop : o.op = .call { callee := .builtin .append, args := #[s, x], argTypes := #[ty, ty] }) (hu : P.underlying ty = some (.slice el)) (hi : P.info? el = some i) (hz : i.zero = some z)
 (c1 : z.cells.size = i.size) (c2 : 0 < i.size) (c3 : i.bytes ≤ 1000000) (hm : toRow st el i.size s = some m1)
 (hk : k (({ st.grow 2 with rows := restR st m1 ++ [⟨st.n, st.n + 1, el, i.size⟩] } : Sym).put o.dst (.leaf (.atom (.var st.n)))) = some t1)
 {ad : Option Addr} {n c : Nat} {nw : List Value} (ex : a.eval x = .slice ad n c) (hnl : nw.length = n * i.size) (hcells : ∀ j u, nw[j]? = some u → ∃ a0, ad = some a0 ∧ w.cell? (a0.add j) = some u) (hones : ∀ u ∈ nw, u.oneCell' = true)
 (hlen : ((match m1.map RowS.kc with | some k => cellsAt env k | none => []) ++ nw).length ≤ 1000000)
 (hnext : ∀ v : Value, SliceN v (((match m1.map RowS.kc with | some k => cellsAt env k | none => []) ++ nw).length / i.size) → TWb P w0 R t1 L (env ++ [v, .agg ((match m1.map RowS.kc with | some k => cellsAt env k | none => []) ++ nw).toArray]) gs β)
 (hK : ∀ st' t' env' a' w', w.heap.size ≤ w'.heap.size → k st' = some t' → st'.dep = st.dep → env <+: env' → Den w0 M β st' env' gs a' w' → TWb P w0 R t' L env' gs β → K a' w') : o.wp P a w K Q := by
 obtain ⟨v, cs, nn, hs, hown, hfar, hfx, hoth, hcs, hcs1⟩ := row_side h hm
 rw [hcs] at hlen hnext
 have hle : nn + n ≤ 1000000 := by
  have e1 := hown.1
  rw [List.length_append, e1, hnl, ← Nat.add_mul] at hlen
  exact Nat.le_trans (Nat.le_mul_of_pos_right _ c2) hlen
 have hby := Nat.mul_le_mul hle c3
 have hgo : ∃ v' w', (Builtin.append_ #[ty, ty] o.type #[v, .slice ad n c]).run P w = .ok v' w' ∧ w'.ownsRow w0.heap.size el i.size v' (nn + n) (cs ++ nw) ∧ w.grownBy w' v.ownBlock ∧
  (v' = .slice none 0 0 ↔ v = .slice none 0 0 ∧ n = 0) ∧ (v'.ownBlock = v.ownBlock ∨ v'.ownBlock = some w.heap.size) := by
  cases ad with
  | some ad => exact run_append_own_at (P := P) w w0.heap.size ty o.type el i z i.size i.bytes hu hi hz rfl rfl c1 c2 v nn cs hown ad n c nw hnl (fun j u hj => by obtain ⟨a0, e0, q⟩ := hcells j u hj; cases e0; exact q) hones (by unfold maxLen; omega) (by omega) h.mem.below.size
  | none =>
   have e0 : nw = [] := by
    cases nw with
    | nil => rfl
    | cons u r => obtain ⟨_, e0, _⟩ := hcells 0 u rfl; cases e0
   subst e0
   have e1 : n = 0 := by
    rcases Nat.mul_eq_zero.1 (show n * i.size = 0 from hnl.symm) with e | e
    ·exact e
    ·omega
   subst e1
   exact run_append_none w w0.heap.size ty o.type el i z i.size i.bytes hu hi hz rfl rfl c1 c2 v nn cs hown c (by unfold maxLen; omega) (by omega) h.mem.below.size
 obtain ⟨v', w', hrun, r1, r2, r3, r4⟩ := hgo
 unfold Oper.wp execOp
 simp only [hop, resolve, invoke, builtin, Sem.run_bind, Sem.run_pure, Result.andThen_ok, List.map_toArray, List.map_cons, List.map_nil, hs, ex, hrun]
 have hrow : ∀ g, v.ownBlock = some g → w0.heap.size ≤ g ∧ g < w.heap.size := hown.lt
 have hv1 : v'.oneCell' = true := by
  rcases r1.2 with ⟨rfl, _⟩ | ⟨g, cap, cur, rfl, _⟩ <;> rfl
 have hvn : SliceN v' ((cs ++ nw).length / i.size) := by
  rw [r1.1, Nat.mul_div_cancel _ c2]
  rcases r1.2 with ⟨rfl, e⟩ | ⟨g, cap, cur, rfl, _⟩
  ·rw [e]; exact ⟨_, _, rfl⟩
  ·exact ⟨_, _, rfl⟩
 have hmem : St w0 w' (bsD env gs st.blocks) := h.mem.grown r2 fun g hg => ⟨(hrow g hg).1, fun x hx e => by
  obtain ⟨j, hj⟩ := List.mem_iff_getElem?.1 hx
  unfold bsD at hj
  rw [List.getElem?_zipWith] at hj
  cases hgj : gs[j]? with
  | none => rw [hgj] at hj; simp at hj
  | some g' =>
   cases hbj : st.blocks[j]? with
   | none => rw [hgj, hbj] at hj; simp at hj
   | some blk' =>
    rw [hgj, hbj] at hj
    simp only [Option.some.injEq] at hj
    subst hj
    simp only at e
    subst e
    exact hfar g' hg (List.mem_of_getElem? hgj)⟩
 have hp2 : env <+: env ++ [v', .agg (cs ++ nw).toArray] := List.prefix_append _ _
 have hkv : (env ++ [v', .agg (cs ++ nw).toArray])[st.n]? = some v' := by rw [← h.n]; simp
 have hkc : (env ++ [v', .agg (cs ++ nw).toArray])[st.n + 1]? = some (.agg (cs ++ nw).toArray) := by rw [← h.n, List.getElem?_append_right (by omega)]; simp
 have hall : ∀ x ∈ cs ++ nw, x.oneCell' = true := fun x hx => by
  rcases List.mem_append.1 hx with hx | hx
  ·exact hcs1 x hx
  ·exact hones x hx
 have hnewblk : ∀ g, v'.ownBlock = some g → v.ownBlock = some g ∨ g = w.heap.size := fun g hg => by
  rcases r4 with r4 | r4
  ·exact .inl (r4 ▸ hg)
  ·rw [r4] at hg; cases hg; exact .inr rfl
 have hsub : ∀ r ∈ restR st m1, r ∈ st.rows := by
  intro r hr
  unfold restR at hr
  cases hmm : m1 with
  | none => rw [hmm] at hr; exact hr
  | some q => rw [hmm] at hr; exact (List.mem_filter.1 hr).1
 have hg2 := h.grow [v', .agg (cs ++ nw).toArray] rfl
 refine hK _ t1 _ _ w' r2.size hk ?_ hp2 (Den.put (env := env ++ [v', .agg (cs ++ nw).toArray]) ?_ o.dst (fun _ => ?_)) (hnext v' hvn)
 ·cases o.dst <;> rfl
 ·refine ⟨hg2.n, hg2.gl, hg2.sl, hg2.slots, ?_, hg2.bok, hg2.df.turn (fun k o hk ho => ?_), ?_, ⟨⟨Nat.le_trans h.bas.up.size r2.size, fun q hq hx => ?_⟩, fun q hq hlt => ?_⟩⟩
  ·show St w0 w' (bsD (env ++ [v', .agg (cs ++ nw).toArray]) gs st.blocks)
   rw [bsD_eq, bsA_pre hp2 (List.prefix_refl _) _ _ h.bok]; exact hmem
  ·rw [r2.block k (Array.getElem?_eq_some_iff.1 hk).1 (fun e => by
    rcases hown.2 with ⟨rfl, _⟩ | ⟨g, cap, cur, rfl, _, hgg, _⟩
    ·cases e
    ·cases e; rw [hgg] at hk; cases hk; cases ho)]
   exact hk
  ·refine ⟨fun r hr => ?_, fun r hr u g hu hg => ?_, ?_⟩
   ·rcases List.mem_append.1 hr with hr | hr
    ·obtain ⟨u, xs, j, h1, h2, h3, h4⟩ := h.rws.own r (hsub r hr)
     refine ⟨u, xs, j, getQ_pre hp2 h1, getQ_pre hp2 h2, h3, h4.kept r2 ?_⟩
     exact hoth r hr u h1
    ·simp only [List.mem_singleton] at hr
     subst hr
     exact ⟨v', _, nn + n, hkv, hkc, hall, r1⟩
   ·rcases List.mem_append.1 hr with hr | hr
    ·have hro := h.rws.own r (hsub r hr)
     exact h.rws.gs r (hsub r hr) u g (hro.back hp2 hu) hg
    ·simp only [List.mem_singleton] at hr
     subst hr
     rw [hkv] at hu; cases hu
     rcases hnewblk g hg with hh | rfl
     ·exact hfar g hh
     ·exact fun hx => by have := (h.gs_lt _ hx).2; omega
   ·refine List.pairwise_append.2 ⟨?_, List.pairwise_singleton _ _, fun r hr s hs u u' g hu hu' hg => ?_⟩
    ·have hpw : (restR st m1).Pairwise fun (r s : RowS) => ∀ (v u : Value) (g : Nat), env[r.kv]? = some v → env[s.kv]? = some u → v.ownBlock = some g → u.ownBlock ≠ some g := by
      unfold restR
      cases m1 with
      | none => exact h.rws.pw
      | some q => exact h.rws.pw.sublist List.filter_sublist
     exact pw_mem hpw fun r hr s hs hp v u g hv hu => hp v u g ((h.rws.own r (hsub r hr)).back hp2 hv) ((h.rws.own s (hsub s hs)).back hp2 hu)
    ·simp only [List.mem_singleton] at hs
     subst hs
     rw [hkv] at hu'; cases hu'
     have hro := h.rws.own r (hsub r hr)
     have hu0 := hro.back hp2 hu
     intro hg'
     rcases hnewblk g hg' with hh | rfl
     ·rcases hoth r hr u hu0 with h8 | h8
      ·rw [h8] at hg; cases hg
      ·exact h8 (by rw [hg, hh])
     ·have := (hro.lt hu0 hg).2; omega
  ·rw [r2.block q (Nat.lt_of_lt_of_le hq h.bas.up.size) (fun e => hx (hfx q e.symm hq))]
   exact h.bas.up.block q hq hx
  ·rcases hq with hq | ⟨r, hr, u, hu, hg⟩
   ·exact h.bas.own q (.inl hq) hlt
   ·rcases List.mem_append.1 hr with hr | hr
    ·have hro := h.rws.own r (hsub r hr)
     exact h.bas.own q (.inr ⟨r, hsub r hr, u, hro.back hp2 hu, hg⟩) hlt
    ·simp only [List.mem_singleton] at hr
     subst hr
     rw [hkv] at hu; cases hu
     rcases hnewblk q hg with hh | rfl
     ·exact hfx q hh hlt
     ·have := h.bas.up.size; omega
 ·have e : (env ++ [v', .agg (cs ++ nw).toArray]).getD st.n undef = v' := by simp only [List.getD, hkv]; rfl
  exact ⟨by simp only [SV.den, Leaf.den, Atom.den, e], (List.getElem?_eq_some_iff.1 hkv).1, by rw [e]; exact hv1⟩

theorem tySlc_under {ty el : TypeId} (hel : tySlc P ty = some el) : P.underlying ty = some (.slice el) := by
 unfold tySlc at hel
 split at hel
 ·rename_i hu; cases hel; exact hu
 ·cases hel

theorem appC_ok {o : Oper} {k : Sym → Option Tree} {t : Tree} (hq : appC P st o k = some t) (h : Den w0 M β st env gs a w) (hT : TWb P w0 R t L env gs β) {K : Act → World → Prop}
 (hK : ∀ st' t' env' a' w', w.heap.size ≤ w'.heap.size → k st' = some t' → st'.dep = st.dep → env <+: env' → Den w0 M β st' env' gs a' w' → TWb P w0 R t' L env' gs β → K a' w') : o.wp P a w K Q := by
 unfold appC at hq
 split at hq
 ·rename_i m hm
  obtain ⟨t1, hk, rfl⟩ := Option.map_eq_some_iff.1 hq
  unfold appvS at hm
  split at hm
  ·rename_i args tys hop
   split at hm
   case h_2 => cases hm
   rename_i s x ty ty' ha hty
   obtain rfl : args = #[s, x] := by apply Array.ext'; simpa using ha
   obtain rfl : tys = #[ty, ty'] := by apply Array.ext'; simpa using hty
   split at hm
   ·cases hm
   ·rename_i htt
    have htt' : ty = ty' := by simpa using htt
    subst htt'
    obtain ⟨el, hel, hm⟩ := Option.bind_eq_some_iff.1 hm
    obtain ⟨i, hi, hm⟩ := Option.bind_eq_some_iff.1 hm
    obtain ⟨z, hz, hm⟩ := Option.bind_eq_some_iff.1 hm
    split at hm
    ·cases hm
    ·rename_i hc
     simp only [Bool.not_eq_true', Bool.not_eq_false, Bool.and_eq_true, beq_iff_eq, decide_eq_true_eq] at hc
     obtain ⟨⟨c1, c2⟩, c3⟩ := hc
     split at hm
     ·rename_i kx hx
      split at hm
      ·cases hm
      ·obtain ⟨m1, hm1, rfl⟩ := Option.map_eq_some_iff.1 hm
       obtain ⟨ad, n, c, cs, q1, q2, q3, q4, q5, q6⟩ := hT
       have ex := (h.opd hx (by simp)).1
       simp only [SV.den, Leaf.den, Atom.den] at ex
       have eg : env.getD kx undef = .slice ad n c := by simp [List.getD, q1]
       rw [eg] at ex
       exact app_core h hop (tySlc_under hel) hi hz c1 c2 c3 hm1 hk ex q2 (q4 w h.bas.up) q3 q5 q6 hK
     ·cases hm
  ·cases hm
 split at hq
 ·rename_i m hm
  obtain ⟨t1, hk, rfl⟩ := Option.map_eq_some_iff.1 hq
  unfold apprS at hm
  split at hm
  ·rename_i args tys hop
   split at hm
   case h_2 => cases hm
   rename_i s x ty ty' ha hty
   obtain rfl : args = #[s, x] := by apply Array.ext'; simpa using ha
   obtain rfl : tys = #[ty, ty'] := by apply Array.ext'; simpa using hty
   split at hm
   ·cases hm
   ·rename_i htt
    have htt' : ty = ty' := by simpa using htt
    subst htt'
    obtain ⟨el, hel, hm⟩ := Option.bind_eq_some_iff.1 hm
    obtain ⟨i, hi, hm⟩ := Option.bind_eq_some_iff.1 hm
    obtain ⟨z, hz, hm⟩ := Option.bind_eq_some_iff.1 hm
    split at hm
    ·cases hm
    ·rename_i hc
     simp only [Bool.not_eq_true', Bool.not_eq_false, Bool.and_eq_true, beq_iff_eq, decide_eq_true_eq] at hc
     obtain ⟨⟨c1, c2⟩, c3⟩ := hc
     split at hm
     ·rename_i kx hx
      obtain ⟨q, hq1, hm⟩ := Option.bind_eq_some_iff.1 hm
      split at hm
      ·rename_i hsz
       have hsz : q.sz = i.size := by simpa using hsz
       obtain ⟨m1, hm1, rfl⟩ := Option.map_eq_some_iff.1 hm
       obtain ⟨hrm, rfl⟩ := rowKv_ok hq1
       obtain ⟨hlt, hT'⟩ := (show _ ∧ _ from hT)
       obtain ⟨v, cs, n, e1, e2, e3, e4⟩ := h.rws.own q hrm
       have ex := (h.opd hx (by simp)).1
       simp only [SV.den, Leaf.den, Atom.den] at ex
       have eg : env.getD q.kv undef = v := by simp [List.getD, e1]
       rw [eg] at ex hlt
       rcases e4.2 with ⟨rfl, _⟩ | ⟨g, cap, cur, rfl, rest⟩
       ·exact absurd hlt (by simp [lenN])
       ·have ec : catS env gs [Seg.rest q.kc] = cs := by simp [catS, Seg.den, cellsAt, List.getD, e2, Value.cells]
        obtain ⟨t1', t2'⟩ := (show _ ∧ _ from hT')
        simp only [ec] at t1' t2'
        have hcl := e4.1
        rw [hsz] at hcl
        exact app_core h hop (tySlc_under hel) hi hz c1 c2 c3 hm1 hk ex hcl (fun j u hj => ⟨_, rfl, e4.cells rfl j u hj⟩) e3 t1' t2' hK
      ·cases hm
     ·cases hm
  ·cases hm
 ·obtain ⟨m, hm, hq⟩ := Option.bind_eq_some_iff.1 hq
  obtain ⟨t1, hk, rfl⟩ := Option.map_eq_some_iff.1 hq
  unfold appS at hm
  split at hm
  ·rename_i args tys hop
   split at hm
   case h_2 => cases hm
   rename_i s x ty ty' ha hty
   obtain rfl : args = #[s, x] := by apply Array.ext'; simpa using ha
   obtain rfl : tys = #[ty, ty'] := by apply Array.ext'; simpa using hty
   split at hm
   ·cases hm
   ·rename_i htt
    have htt' : ty = ty' := by simpa using htt
    subst htt'
    obtain ⟨el, hel, hm⟩ := Option.bind_eq_some_iff.1 hm
    obtain ⟨i, hi, hm⟩ := Option.bind_eq_some_iff.1 hm
    obtain ⟨z, hz, hm⟩ := Option.bind_eq_some_iff.1 hm
    split at hm
    ·cases hm
    ·rename_i hc
     simp only [Bool.not_eq_true', Bool.not_eq_false, Bool.and_eq_true, beq_iff_eq, decide_eq_true_eq] at hc
     obtain ⟨⟨c1, c2⟩, c3⟩ := hc
     obtain ⟨new, hnew, hm⟩ := Option.bind_eq_some_iff.1 hm
     obtain ⟨m1, hm1, rfl⟩ := Option.map_eq_some_iff.1 hm
     -- what is appended
     obtain ⟨b, d, n, c, blk, hx, hb, hcut⟩ : ∃ b d n c blk, opd st x = .leaf (.atom (.slc b d n c)) ∧ st.blocks[b]? = some blk ∧ cutS blk.1 d (n * i.size) = some new := by
      split at hnew
      ·rename_i b d n c hx
       obtain ⟨blk, hb, hcut⟩ := Option.bind_eq_some_iff.1 hnew
       exact ⟨b, d, n, c, blk, hx, hb, hcut⟩
      ·cases hnew
     obtain ⟨q1, q2, q3⟩ := cutS_ok (env := env) (gs := gs) blk.1 d (n * i.size) new hcut (h.segs hb)
     have ex := (h.opd hx (by simp)).1
     simp only [SV.den, Leaf.den, Atom.den] at ex
     have hO := h.own hb (Fut.refl w)
     have hnl : (flat env gs new).length = n * i.size := by rw [q1]; simp only [List.length_take, List.length_drop]; omega
     have hcells : ∀ j u, (flat env gs new)[j]? = some u → w.cell? ((⟨gs.getD b 0, d, none⟩ : Addr).add j) = some u := by
      intro j u hj
      rw [addr_add]
      refine hO.cell_of _ ?_
      rw [q1, List.getElem?_take] at hj
      split at hj
      ·rwa [List.getElem?_drop] at hj
      ·cases hj
     have hones : ∀ u ∈ flat env gs new, u.oneCell' = true := flat_ones (fun s hs => (q3 s hs).1) (fun s hs => Seg.known_clean (q3 s hs).2)
     obtain ⟨t1', t2'⟩ := (show _ ∧ _ from hT)
     rw [catS_flat] at t1' t2'
     exact app_core h hop (tySlc_under hel) hi hz c1 c2 c3 hm1 hk ex hnl (fun j u hj => ⟨_, rfl, hcells j u hj⟩) hones t1' t2' hK
  ·cases hm

theorem append_both (w : World) (base : Nat) (t ty e : TypeId) (i : TypeInfo) (z : Value) (ht : P.underlying t = some (.slice e)) (hi : P.info? e = some i) (hz : i.zero = some z)
 (hzs : z.cells.size = i.size) (hsz : 0 < i.size) (v : Value) (n : Nat) (xs : List Value) (hown : w.ownsRow base e i.size v n xs)
 (a : Addr) (m c : Nat) (news : List Value) (hl : news.length = m * i.size) (hnews : ∀ j u, news[j]? = some u → w.cell? (a.add j) = some u) (h1 : ∀ u ∈ news, u.oneCell' = true)
 (h63 : n + m ≤ maxLen) (hbytes : (n + m) * i.bytes ≤ 140737488355328) (hbase : base ≤ w.heap.size) :
 ∃ v' w', (Builtin.append_ #[t, t] ty #[v, .slice (some a) m c]).run P w = .ok v' w' ∧ w'.ownsRow base e i.size v' (n + m) (xs ++ news) ∧ w.grownBy w' v.ownBlock ∧ w'.ownsRow base e i.size v n xs := by
 obtain ⟨v', w', hr, q1, q2, _, _⟩ := run_append_own_at (P := P) w base t ty e i z i.size i.bytes ht hi hz rfl rfl hzs hsz v n xs hown a m c news hl hnews h1 h63 hbytes hbase
 refine ⟨v', w', hr, q1, q2, hown.1, ?_⟩
 rcases hown.2 with hn | ⟨g, cap, cur, rfl, hbg, hg, hnc, hcm, hcs, htk⟩
 ·exact .inl hn
 ·by_cases hroom : n + m ≤ cap
  ·have hfit : n * i.size + news.length ≤ cur.size := by rw [hl, hcs, ← Nat.add_mul]; exact Nat.mul_le_mul_right _ hroom
   rw [run_append_room (P := P) w t ty e i ht hi g n cap cur hg a m c news hl hnews h1 hroom hfit] at hr
   simp only [Result.ok.injEq] at hr
   obtain ⟨_, rfl⟩ := hr
   refine .inr ⟨g, cap, _, rfl, hbg, setRow_heap w g cur _ e _ hg, hnc, hcm, ?_, ?_⟩
   ·simp only [List.size_toArray, List.length_append, List.length_take, List.length_drop, Array.length_toList]
    omega
   ·have hx : xs.length = n * i.size := hown.1
    rw [htk]
    simp only [List.append_assoc]
    rw [← hx, List.take_left]
  ·have hlt : g < w.heap.size := (Array.getElem?_eq_some_iff.1 hg).1
   rw [run_append_grow (P := P) w t ty e i z ht hi hz ⟨g, 0, none⟩ n cap xs hown.1 (hown.cells (g := g) rfl) a m c news hl hnews (by omega) (by simp only [maxLen] at h63; omega) (growslice_fits (by omega) hbytes)] at hr
   simp only [Result.ok.injEq] at hr
   obtain ⟨_, rfl⟩ := hr
   exact .inr ⟨g, cap, cur, rfl, hbg, (heap_alloc_old w.drew _ hlt).trans hg, hnc, hcm, hcs, htk⟩
theorem toRow_ok {el : TypeId} {sz : Nat} {s : Operand} {r : RowS} (hm : toRow st el sz s = some (some r)) : r ∈ st.rows ∧ opd st s = .leaf (.atom (.var r.kv)) ∧ r.T = el ∧ r.sz = sz := by
 unfold toRow at hm
 split at hm
 ·cases hm
 ·rename_i kv hsl
  obtain ⟨q, hq, hm⟩ := Option.bind_eq_some_iff.1 hm
  split at hm
  ·rename_i hrt
   simp only [Bool.and_eq_true, beq_iff_eq] at hrt
   cases hm
   have hrk : r.kv = kv := by have := List.find?_some hq; simpa using this
   exact ⟨List.mem_of_find?_eq_some hq, hrk ▸ hsl, hrt.1, hrt.2⟩
  ·cases hm
 ·cases hm
theorem appS_run {o : Oper} {r : RowS} {new : List Seg} {el : TypeId} {sz : Nat} (h : Den w0 M β st env gs a w) (hm : appS P st o.op = some (some r, new, el, sz)) (hlen : (cellsAt env r.kc ++ catS env gs new).length ≤ 1000000) :
 ∃ v' w' m, (execOp a.eval o).run P w = .ok (.value v') w' ∧ v'.oneCell' = true ∧ w'.ownsRow w0.heap.size el sz v' m (cellsAt env r.kc ++ catS env gs new) ∧ w.heap.size ≤ w'.heap.size ∧ Den w0 M β st env gs a w' := by
 unfold appS at hm
 split at hm
 ·rename_i args tys hop
  split at hm
  case h_2 => cases hm
  rename_i s x ty ty' ha hty
  obtain rfl : args = #[s, x] := by apply Array.ext'; simpa using ha
  obtain rfl : tys = #[ty, ty'] := by apply Array.ext'; simpa using hty
  split at hm
  ·cases hm
  ·rename_i htt
   have htt' : ty = ty' := by simpa using htt
   subst htt'
   obtain ⟨el', hel, hm⟩ := Option.bind_eq_some_iff.1 hm
   obtain ⟨i, hi, hm⟩ := Option.bind_eq_some_iff.1 hm
   obtain ⟨z, hz, hm⟩ := Option.bind_eq_some_iff.1 hm
   split at hm
   ·cases hm
   ·rename_i hc
    simp only [Bool.not_eq_true', Bool.not_eq_false, Bool.and_eq_true, beq_iff_eq, decide_eq_true_eq] at hc
    obtain ⟨⟨c1, c2⟩, c3⟩ := hc
    obtain ⟨new', hnew, hm⟩ := Option.bind_eq_some_iff.1 hm
    obtain ⟨m1, hm1, he⟩ := Option.map_eq_some_iff.1 hm
    simp only [Prod.mk.injEq] at he
    obtain ⟨rfl, rfl, rfl, rfl⟩ := he
    obtain ⟨b, d, n, c, blk, hx, hb, hcut⟩ : ∃ b d n c blk, opd st x = .leaf (.atom (.slc b d n c)) ∧ st.blocks[b]? = some blk ∧ cutS blk.1 d (n * i.size) = some new' := by
     split at hnew
     ·rename_i b d n c hx
      obtain ⟨blk, hb, hcut⟩ := Option.bind_eq_some_iff.1 hnew
      exact ⟨b, d, n, c, blk, hx, hb, hcut⟩
     ·cases hnew
    obtain ⟨q1, q2, q3⟩ := cutS_ok (env := env) (gs := gs) blk.1 d (n * i.size) new' hcut (h.segs hb)
    have ex := (h.opd hx (by simp)).1
    simp only [SV.den, Leaf.den, Atom.den] at ex
    have hO := h.own hb (Fut.refl w)
    have hnl : (flat env gs new').length = n * i.size := by rw [q1]; simp only [List.length_take, List.length_drop]; omega
    have hcells : ∀ j u, (flat env gs new')[j]? = some u → w.cell? ((⟨gs.getD b 0, d, none⟩ : Addr).add j) = some u := by
     intro j u hj
     rw [addr_add]
     refine hO.cell_of _ ?_
     rw [q1, List.getElem?_take] at hj
     split at hj
     ·rwa [List.getElem?_drop] at hj
     ·cases hj
    have hones : ∀ u ∈ flat env gs new', u.oneCell' = true := flat_ones (fun s hs => (q3 s hs).1) (fun s hs => Seg.known_clean (q3 s hs).2)
    obtain ⟨hrm, hsl, hT, hS⟩ := toRow_ok hm1
    obtain ⟨v, cs, nn, e1, e2, e3, hown⟩ := h.rws.own r hrm
    rw [hT, hS] at hown
    have es := (h.opd hsl (by simp)).1
    simp only [SV.den, Leaf.den, Atom.den] at es
    have eg : env.getD r.kv undef = v := by simp [List.getD, e1]
    rw [eg] at es
    have ec : cellsAt env r.kc = cs := by simp [cellsAt, List.getD, e2, Value.cells]
    rw [ec, catS_flat] at hlen ⊢
    have hle : nn + n ≤ 1000000 := by
     rw [List.length_append, hown.1, hnl, ← Nat.add_mul] at hlen
     exact Nat.le_trans (Nat.le_mul_of_pos_right _ c2) hlen
    have hby := Nat.mul_le_mul hle c3
    obtain ⟨v', w', hrun, r1, r2, r3⟩ := append_both (P := P) w w0.heap.size ty o.type el' i z (tySlc_under hel) hi hz c1 c2 v nn cs hown ⟨gs.getD b 0, d, none⟩ n c (flat env gs new') hnl hcells hones (by unfold maxLen; omega) (by omega) h.mem.below.size
    have hfar : ∀ g, v.ownBlock = some g → g ∉ gs := fun g hg => h.rws.gs r hrm v g e1 hg
    have hrow : ∀ g, v.ownBlock = some g → w0.heap.size ≤ g ∧ g < w.heap.size := hown.lt
    have hv1 : v'.oneCell' = true := by
     rcases r1.2 with ⟨rfl, _⟩ | ⟨g, cap, cur, rfl, _⟩ <;> rfl
    refine ⟨v', w', nn + n, ?_, hv1, r1, r2.size, h.n, h.gl, h.sl, h.slots, ?_, h.bok, h.df.turn (fun k o hk ho => ?_), ⟨fun q hq => ?_, h.rws.gs, h.rws.pw⟩, ⟨⟨Nat.le_trans h.bas.up.size r2.size, fun q hq hx => ?_⟩, h.bas.own⟩⟩
    ·unfold execOp
     simp only [hop, resolve, invoke, builtin, Sem.run_bind, Sem.run_pure, Result.andThen_ok, List.map_toArray, List.map_cons, List.map_nil, es, ex, hrun]
    ·exact h.mem.grown r2 fun g hg => ⟨(hrow g hg).1, fun x hx e => by
      obtain ⟨j, hj⟩ := List.mem_iff_getElem?.1 hx
      unfold bsD at hj
      rw [List.getElem?_zipWith] at hj
      cases hgj : gs[j]? with
      | none => rw [hgj] at hj; simp at hj
      | some g' =>
       cases hbj : st.blocks[j]? with
       | none => rw [hgj, hbj] at hj; simp at hj
       | some blk' =>
        rw [hgj, hbj] at hj
        simp only [Option.some.injEq] at hj
        subst hj
        simp only at e
        subst e
        exact hfar g' hg (List.mem_of_getElem? hgj)⟩
    ·rw [r2.block k (Array.getElem?_eq_some_iff.1 hk).1 (fun e => by
      rcases hown.2 with ⟨rfl, _⟩ | ⟨g, cap, cur, rfl, _, hgg, _⟩
      ·cases e
      ·cases e; rw [hgg] at hk; cases hk; cases ho)]
     exact hk
    ·by_cases hqr : q = r
     ·subst hqr
      exact ⟨v, cs, nn, e1, e2, e3, by rw [hT, hS]; exact r3⟩
     ·obtain ⟨u, xs, j, h1, h2, h3, h4⟩ := h.rws.own q hq
      refine ⟨u, xs, j, h1, h2, h3, h4.kept r2 ?_⟩
      cases hb : u.ownBlock with
      | none => exact .inl rfl
      | some g => exact .inr fun e => rows_apart h.rws.pw hrm hq (fun e => hqr e) e1 h1 e.symm hb
    ·rw [r2.block q (Nat.lt_of_lt_of_le hq h.bas.up.size) (fun e => hx (h.bas.own q (.inr ⟨r, hrm, v, e1, e.symm⟩) hq))]
     exact h.bas.up.block q hq hx
 ·cases hm
end
end Go.Proofs.Ytdpongijmmdnoaa
/- The trees are sound: loops' heads. Over any program. -/
namespace Go.Proofs.Ytdpongijmmdnoaa
open Go.RowKit

theorem all2_eq {α : Type} {f : α → α → Bool} : ∀ {l m : List α}, (∀ x ∈ l, ∀ y, f x y = true → x = y) → all2 f l m = true → l = m
 | [], [], _, _ => rfl
 | x :: l, y :: m, h, e => by
  simp only [all2, Bool.and_eq_true] at e
  rw [h x (by simp) y e.1, all2_eq (fun z hz => h z (List.mem_cons_of_mem _ hz)) e.2]
 | [], _ :: _, _, e => by cases e
 | _ :: _, [], _, e => by cases e
theorem str_same : ∀ {l m : List UInt8}, all2 (fun x y : UInt8 => Nat.beq x.toNat y.toNat) l m = true → l = m
 | [], [], _ => rfl
 | x :: l, y :: m, h => by
  simp only [all2, Bool.and_eq_true, Nat.beq_eq] at h
  rw [str_same h.2, UInt8.toNat_inj.1 h.1]
 | [], _ :: _, h => by simp [all2] at h
 | _ :: _, [], h => by simp [all2] at h
theorem vsame_eq {v u : Value} (h : vsame v u = true) : v = u := by
 unfold vsame at h
 split at h
 ·simp at h; obtain ⟨rfl, rfl⟩ := h; rfl
 ·simp at h; subst h; rfl
 ·rfl
 ·simp at h; obtain ⟨rfl, rfl⟩ := h; rfl
 ·rename_i a b
  have := str_same h
  cases a; cases b
  simp only at this
  rw [Array.ext' this]
 ·cases h
theorem Atom.same_eq {a b : Atom} (h : a.same b = true) : a = b := by
 unfold Atom.same at h
 split at h
 ·rw [vsame_eq h]
 ·simp at h; subst h; rfl
 ·simp at h; obtain ⟨rfl, rfl⟩ := h; rfl
 ·simp at h; obtain ⟨rfl, rfl⟩ := h; rfl
 ·simp at h; obtain ⟨⟨⟨rfl, rfl⟩, rfl⟩, rfl⟩ := h; rfl
 ·simp at h; obtain ⟨rfl, rfl⟩ := h; rfl
 ·simp at h; obtain ⟨⟨⟨rfl, rfl⟩, rfl⟩, rfl⟩ := h; rfl
 ·simp at h; obtain ⟨⟨rfl, rfl⟩, rfl⟩ := h; rfl
 ·simp at h; obtain ⟨rfl, rfl⟩ := h; rfl
 ·simp at h; obtain ⟨⟨⟨rfl, rfl⟩, rfl⟩, rfl⟩ := h; rfl
 ·cases h
theorem Seg.same_eq {a b : Seg} (h : a.same b = true) : a = b := by
 unfold Seg.same at h
 split at h
 ·simp at h; obtain ⟨rfl, rfl⟩ := h; rfl
 ·simp at h; obtain ⟨⟨rfl, rfl⟩, rfl⟩ := h; rfl
 ·rw [all2_eq (fun x _ y hxy => vsame_eq hxy) h]
 ·rw [Atom.same_eq h]
 ·simp at h; subst h; rfl
 ·simp at h; subst h; rfl
 ·cases h
theorem Leaf.same_eq {a b : Leaf} (h : a.same b = true) : a = b := by
 unfold Leaf.same at h
 split at h
 ·rw [Atom.same_eq h]
 ·rw [all2_eq (fun x _ y hxy => Seg.same_eq hxy) h]
 ·cases h
theorem SV.same_eq {a b : SV} (h : a.same b = true) : a = b := by
 unfold SV.same at h
 split at h
 ·rw [Leaf.same_eq h]
 ·rw [all2_eq (fun x _ y hxy => Leaf.same_eq hxy) h]
 ·cases h

theorem VarsOK.nil : VarsOK [] [] := ⟨rfl, fun j k v h => by simp at h⟩
theorem VarsOK.cons {k : Kd} {v : Value} {ks : List Kd} {vs : List Value} (h : KindOK v k) (h' : VarsOK ks vs) : VarsOK (k :: ks) (v :: vs) := by
 refine ⟨by simp [h'.1], fun j k' v' hk hv => ?_⟩
 cases j with
 | zero => simp at hk hv; subst hk; subst hv; exact h
 | succ j => exact h'.2 j k' v' (by simpa using hk) (by simpa using hv)
theorem VarsOK.app : ∀ {ks : List Kd} {vs : List Value} {ks' : List Kd} {vs' : List Value}, VarsOK ks vs → VarsOK ks' vs' → VarsOK (ks ++ ks') (vs ++ vs')
 | [], [], _, _, _, h' => h'
 | k :: ks, v :: vs, ks', vs', h, h' => by
  refine VarsOK.cons (h.2 0 k v rfl rfl) (VarsOK.app ⟨by simpa using h.1, fun j a b ha hb => h.2 (j + 1) a b (by simpa using ha) (by simpa using hb)⟩ h')
 | [], _ :: _, _, _, h, _ => by have := h.1; simp at this
 | _ :: _, [], _, _, h, _ => by have := h.1; simp at this

section
variable {P : Program} {w0 : World} {M : Marks} {β : Base} {env' E env0 : List Value} {gs' gs0 G : List Nat} {a : Act} {w : World}

theorem agg_at {k n : Nat} {v : Value} (he : E[k]? = some v) (hk : KindOK v (.agg n)) : AggN E k n ∧ v = .agg (cellsAt E k).toArray := by
 obtain ⟨cs, rfl, h1, h2⟩ := hk
 exact ⟨⟨cs, he, h1, h2⟩, by simp [cellsAt, List.getD, he, Value.cells]⟩

theorem curP_ok {l : List Seg} (ho : ∀ s ∈ l, s.OK env' gs') : ∀ (pcs : List Kd) (off : Nat) (ls : List Leaf), curP l off pcs = some ls →
 VarsOK pcs (ls.map (Leaf.den env' gs')) ∧ ∀ k, (∀ (j : Nat) v, (ls.map (Leaf.den env' gs'))[j]? = some v → E[k + j]? = some v) →
  flat E G (pcsS k pcs) = (flat env' gs' l).drop off ∧ ∀ s ∈ pcsS k pcs, s.OK E G
 | [], off, ls, h => by
  simp only [curP] at h
  split at h
  ·rename_i hc
   cases h
   simp only [Bool.and_eq_true, beq_iff_eq, List.all_eq_true] at hc
   refine ⟨VarsOK.nil, fun k _ => ⟨?_, by simp [pcsS]⟩⟩
   rw [List.drop_of_length_le (by rw [flat_len hc.2 ho]; omega)]
   simp [pcsS, flat]
  ·cases h
 | .agg n :: r, off, ls, h => by
  simp only [curP] at h
  obtain ⟨s, hs, h⟩ := Option.bind_eq_some_iff.1 h
  obtain ⟨ls', hls, rfl⟩ := Option.map_eq_some_iff.1 h
  obtain ⟨c1, c2, c3⟩ := cutS_ok l off n s hs ho
  obtain ⟨r1, r2⟩ := curP_ok ho r (off + n) ls' hls
  have hlen : (catS env' gs' s).length = n := by rw [catS_flat, c1]; simp; omega
  have hk : KindOK (Leaf.den env' gs' (.agg s)) (.agg n) := ⟨catS env' gs' s, rfl, hlen, by rw [catS_flat]; exact flat_ones (fun x hx => (c3 x hx).1) (fun x hx => Seg.known_clean (c3 x hx).2)⟩
  refine ⟨VarsOK.cons hk r1, fun k he => ?_⟩
  have h0 := he 0 (Leaf.den env' gs' (.agg s)) rfl
  obtain ⟨g1, g2⟩ := agg_at h0 hk
  obtain ⟨q1, q2⟩ := r2 (k + 1) fun j v hv => by
   have := he (j + 1) v (by simpa using hv)
   rw [show k + 1 + j = k + (j + 1) from by omega]; exact this
  have e1 : cellsAt E (k + 0) = catS env' gs' s := by
   simp only [Leaf.den, Value.agg.injEq] at g2
   have := congrArg Array.toList g2
   simpa using this.symm
  refine ⟨?_, ?_⟩
  ·simp only [pcsS, flat_cons, q1, Seg.den]
   rw [← Nat.add_zero k, e1, catS_flat, c1]
   rw [← List.drop_drop]
   exact List.take_append_drop n _
  ·intro x hx
   simp only [pcsS] at hx
   rcases List.mem_cons.1 hx with rfl | hx
   ·exact g1
   ·exact q2 x hx
 | .row :: r, off, ls, h => by simp only [curP] at h; cases h
 | .one :: r, off, ls, h => by
  simp only [curP] at h
  obtain ⟨s, hs, h⟩ := Option.bind_eq_some_iff.1 h
  obtain ⟨x, hx, h⟩ := Option.bind_eq_some_iff.1 h
  obtain ⟨ls', hls, rfl⟩ := Option.map_eq_some_iff.1 h
  obtain ⟨c1, c2⟩ := cellS_ok hs hx ho
  obtain ⟨r1, r2⟩ := curP_ok ho r (off + 1) ls' hls
  have hk : KindOK (Leaf.den env' gs' (.atom x)) .one := Atom.one c2
  refine ⟨VarsOK.cons hk r1, fun k he => ?_⟩
  have h0 := he 0 (Leaf.den env' gs' (.atom x)) rfl
  have hlt : k < E.length := by simpa using (List.getElem?_eq_some_iff.1 h0).1
  have e0 : E.getD k undef = x.den env' gs' := by simp only [List.getD]; rw [← Nat.add_zero k, h0]; rfl
  obtain ⟨q1, q2⟩ := r2 (k + 1) fun j v hv => by
   have := he (j + 1) v (by simpa using hv)
   rw [show k + 1 + j = k + (j + 1) from by omega]; exact this
  refine ⟨?_, ?_⟩
  ·simp only [pcsS, flat_cons, q1]
   have e3 : Seg.den E G (.one (.var k)) = [x.den env' gs'] := by rw [← e0]; rfl
   rw [e3]
   obtain ⟨hl, hg⟩ := List.getElem?_eq_some_iff.1 c1
   rw [← hg]
   exact List.getElem_cons_drop hl
  ·intro y hy
   simp only [pcsS] at hy
   rcases List.mem_cons.1 hy with rfl | hy
   ·exact ⟨hlt, by rw [e0]; exact hk⟩
   ·exact q2 y hy

def HeldI (E : List Value) (G : List Nat) (env' : List Value) (gs' : List Nat) (st' : Sym) (a : Act) (k : Nat) : Item → Prop
 | .slot t pcs => (slotSV k pcs).den E G = a.tmps.getD t undef ∧ (slotSV k pcs).OK E G
 | .blk b pcs => ∃ blk, st'.blocks[b]? = some blk ∧ flat E G (pcsS k pcs) = flat env' gs' blk.1 ∧ ∀ s ∈ pcsS k pcs, s.OK E G
 | .row t T sz => ∃ v cs, E[k]? = some v ∧ E[k + 1]? = some (.agg cs.toArray) ∧ (∀ x ∈ cs, x.oneCell' = true) ∧ v.oneCell' = true ∧ a.tmps.getD t undef = v ∧
  ((v = .slice none 0 0 ∧ cs = []) ∨ ∃ r ∈ st'.rows, (∃ kv, st'.slots.getD t .any = .leaf (.atom (.var kv)) ∧ r.kv = kv) ∧ r.T = T ∧ r.sz = sz ∧ env'[r.kv]? = some v ∧ env'[r.kc]? = some (.agg cs.toArray))
 | .cont t T sz => ∃ (v : Value) (cs : List Value), E[k]? = some (.agg cs.toArray) ∧ (∀ x ∈ cs, x.oneCell' = true) ∧
  ∃ r ∈ st'.rows, kvAt st'.slots t = some r.kv ∧ r.T = T ∧ r.sz = sz ∧ env'[r.kv]? = some v ∧ env'[r.kc]? = some (.agg cs.toArray)
 | .stay kv kc T sz => (⟨kv, kc, T, sz⟩ : RowS) ∈ st'.rows

theorem slotSV_agg {pcs : List Kd} (h : pcs ≠ [.one]) (k : Nat) : slotSV k pcs = .leaf (.agg (pcsS k pcs)) := by
 unfold slotSV
 split
 ·exact absurd rfl h
 ·rfl

theorem curI_ok {st' : Sym} (hd : Den w0 M β st' env' gs' a w) {i : Item} {ls : List Leaf} (h : curI st' i = some ls) :
 VarsOK i.pcs (ls.map (Leaf.den env' gs')) ∧ ∀ k, (∀ (j : Nat) v, (ls.map (Leaf.den env' gs'))[j]? = some v → E[k + j]? = some v) → HeldI E G env' gs' st' a k i := by
 cases i with
 | slot t pcs =>
  have e : opd st' (.tmp t) = st'.slots.getD t .any := rfl
  simp only [curI] at h
  split at h
  ·rename_i x hx
   cases h
   rw [← e] at hx
   obtain ⟨e1, ok⟩ := hd.opd hx (by simp)
   have hk : KindOK (Leaf.den env' gs' (.atom x)) .one := Atom.one ok
   refine ⟨VarsOK.cons hk VarsOK.nil, fun k he => ?_⟩
   have h0 := he 0 (Leaf.den env' gs' (.atom x)) rfl
   have hlt : k < E.length := by simpa using (List.getElem?_eq_some_iff.1 h0).1
   have e0 : E.getD k undef = x.den env' gs' := by simp only [List.getD]; rw [← Nat.add_zero k, h0]; rfl
   exact ⟨by simp only [slotSV, SV.den, Leaf.den, Atom.den, e0]; exact e1.symm, hlt, by rw [e0]; exact hk⟩
  ·cases h
  ·rename_i pcs _ _ l hne hx
   rw [← e] at hx
   obtain ⟨e1, ok⟩ := hd.opd hx (by simp)
   obtain ⟨c1, c2⟩ := curP_ok (E := E) (G := G) ok pcs 0 ls h
   refine ⟨c1, fun k he => ?_⟩
   obtain ⟨q1, q2⟩ := c2 k he
   have hp : pcs ≠ [.one] := fun hp => hne hp
   refine ⟨?_, by rw [slotSV_agg hp]; exact q2⟩
   rw [slotSV_agg hp]
   have e2 : a.eval (.tmp t) = a.tmps.getD t undef := rfl
   rw [← e2, e1]
   simp only [SV.den, Leaf.den, catS_flat, q1, List.drop_zero]
  ·cases h
 | blk b pcs =>
  simp only [curI] at h
  obtain ⟨blk, hb, h⟩ := Option.bind_eq_some_iff.1 h
  obtain ⟨c1, c2⟩ := curP_ok (E := E) (G := G) (hd.segs hb) pcs 0 ls h
  exact ⟨c1, fun k he => ⟨blk, hb, by have := (c2 k he).1; simpa using this, (c2 k he).2⟩⟩
 | row t T sz =>
  have e : opd st' (.tmp t) = st'.slots.getD t .any := rfl
  simp only [curI] at h
  split at h
  ·rename_i hx
   cases h
   rw [← e] at hx
   obtain ⟨e1, ok⟩ := hd.opd hx (by simp)
   refine ⟨VarsOK.cons (v := .slice none 0 0) rfl (VarsOK.cons (v := .agg #[]) ⟨[], rfl, by simp⟩ VarsOK.nil), fun k he => ?_⟩
   refine ⟨.slice none 0 0, [], he 0 _ rfl, he 1 _ rfl, by simp, rfl, ?_, .inl ⟨rfl, rfl⟩⟩
   exact e1
  ·rename_i kv hx
   have hx' := hx
   rw [← e] at hx
   obtain ⟨e1, ok⟩ := hd.opd hx (by simp)
   obtain ⟨r, hr, h⟩ := Option.bind_eq_some_iff.1 h
   split at h
   ·rename_i hc
    cases h
    simp only [Bool.and_eq_true, beq_iff_eq] at hc
    have hrm := List.mem_of_find?_eq_some hr
    have hrk : r.kv = kv := by have := List.find?_some hr; simpa using this
    obtain ⟨v, cs, m, h1, h2, h3, h4⟩ := hd.rws.own r hrm
    have ev : env'.getD kv undef = v := by rw [← hrk]; simp [List.getD, h1]
    have ec : cellsAt env' r.kc = cs := by simp [cellsAt, List.getD, h2, Value.cells]
    simp only [SV.den, Leaf.den, Atom.den, ev] at e1
    have hv1 : v.oneCell' = true := by rw [← ev]; exact ok.2
    have d1 : Leaf.den env' gs' (.atom (.var kv)) = v := ev
    have d2 : Leaf.den env' gs' (.agg [.rest r.kc]) = .agg cs.toArray := by simp only [Leaf.den, catS, Seg.den, ec]
    refine ⟨VarsOK.cons (by rw [d1]; exact hv1) (VarsOK.cons (by rw [d2]; exact ⟨cs, rfl, h3⟩) VarsOK.nil), fun k he => ?_⟩
    exact ⟨v, cs, he 0 v (by rw [← d1]; rfl), he 1 _ (by rw [← d2]; rfl), h3, hv1, e1, .inr ⟨r, hrm, ⟨kv, hx', hrk⟩, hc.1, hc.2, h1, h2⟩⟩
   ·cases h
  ·cases h
 | stay kv kc T sz =>
  simp only [curI] at h
  split at h
  ·rename_i hc
   cases h
   exact ⟨VarsOK.nil, fun k he => (show (⟨kv, kc, T, sz⟩ : RowS) ∈ st'.rows from by simpa using hc)⟩
  ·cases h
 | cont t T sz =>
  simp only [curI] at h
  split at h
  ·rename_i kv hx
   obtain ⟨r, hr, h⟩ := Option.bind_eq_some_iff.1 h
   split at h
   ·rename_i hc
    cases h
    simp only [Bool.and_eq_true, beq_iff_eq] at hc
    have hrm := List.mem_of_find?_eq_some hr
    have hrk : r.kv = kv := by have := List.find?_some hr; simpa using this
    obtain ⟨v, cs, m, h1, h2, h3, h4⟩ := hd.rws.own r hrm
    have ec : cellsAt env' r.kc = cs := by simp [cellsAt, List.getD, h2, Value.cells]
    have d2 : Leaf.den env' gs' (.agg [.rest r.kc]) = .agg cs.toArray := by simp only [Leaf.den, catS, Seg.den, ec]
    refine ⟨VarsOK.cons (by rw [d2]; exact ⟨cs, rfl, h3⟩) VarsOK.nil, fun k he => ?_⟩
    exact ⟨v, cs, he 0 _ (by rw [← d2]; rfl), h3, r, hrm, by simp only [kvAt, hx, hrk], hc.1, hc.2, h1, h2⟩
   ·cases h
  ·cases h

def HeldIs (E : List Value) (G : List Nat) (env' : List Value) (gs' : List Nat) (st' : Sym) (a : Act) : Nat → List Item → Prop
 | _, [] => True
 | k, i :: r => HeldI E G env' gs' st' a k i ∧ HeldIs E G env' gs' st' a (k + i.pcs.length) r

theorem curIs_ok {st' : Sym} (hd : Den w0 M β st' env' gs' a w) : ∀ {items : List Item} {ls : List Leaf}, curIs st' items = some ls →
 VarsOK (ksOf items) (ls.map (Leaf.den env' gs')) ∧ ∀ k, (∀ (j : Nat) v, (ls.map (Leaf.den env' gs'))[j]? = some v → E[k + j]? = some v) → HeldIs E G env' gs' st' a k items
 | [], ls, h => by simp only [curIs] at h; cases h; exact ⟨VarsOK.nil, fun _ _ => trivial⟩
 | i :: r, ls, h => by
  simp only [curIs] at h
  obtain ⟨x, hx, h⟩ := Option.bind_eq_some_iff.1 h
  obtain ⟨y, hy, rfl⟩ := Option.map_eq_some_iff.1 h
  obtain ⟨c1, c2⟩ := curI_ok (E := E) (G := G) hd hx
  obtain ⟨d1, d2⟩ := curIs_ok hd hy
  have hl : (x.map (Leaf.den env' gs')).length = i.pcs.length := c1.1
  refine ⟨by rw [List.map_append]; exact VarsOK.app c1 d1, fun k he => ⟨c2 k fun j v hv => he j v ?_, d2 (k + i.pcs.length) fun j v hv => ?_⟩⟩
  ·rw [List.map_append, List.getElem?_append_left (List.getElem?_eq_some_iff.1 hv).1]; exact hv
  ·have := he (i.pcs.length + j) v (by rw [List.map_append, List.getElem?_append_right (by omega), hl, Nat.add_sub_cancel_left]; exact hv)
   rw [← Nat.add_assoc] at this; exact this

theorem headIs_slot {head : Sym} {st' : Sym} {t : Tmp} : ∀ {items : List Item} {k : Nat}, headIs head k items = true → HeldIs E G env' gs' st' a k items → isSlot items t = true →
 ∃ x, head.slots.getD t .any = x ∧ x.den E G = a.tmps.getD t undef ∧ x.OK E G
 | [], _, _, _, h => by cases h
 | i :: r, k, h1, h2, h3 => by
  simp only [headIs, Bool.and_eq_true] at h1
  by_cases hi : isSlot r t = true
  ·exact headIs_slot h1.2 h2.2 hi
  ·simp only [isSlot, List.any_cons, Bool.or_eq_true] at h3
   have h4 := h3.resolve_right hi
   cases i with
   | slot u pcs =>
    simp only [beq_iff_eq] at h4
    subst h4
    exact ⟨slotSV k pcs, SV.same_eq h1.1, h2.1⟩
   | blk b pcs => cases h4
   | cont u T sz => cases h4
   | stay u v T sz => cases h4
   | row u T sz =>
    simp only [beq_iff_eq] at h4
    subst h4
    obtain ⟨v, cs, q1, _, _, q4, q5, _⟩ := h2.1
    have e : E.getD k undef = v := by simp [List.getD, q1]
    exact ⟨.leaf (.atom (.var k)), SV.same_eq h1.1, by simp only [SV.den, Leaf.den, Atom.den, e]; exact q5.symm, (List.getElem?_eq_some_iff.1 q1).1, by rw [e]; exact q4⟩
theorem headIs_blk {head : Sym} {st' : Sym} {b : Nat} : ∀ {items : List Item} {k : Nat}, headIs head k items = true → HeldIs E G env' gs' st' a k items → isBlk items b = true →
 ∃ x y, head.blocks[b]? = some x ∧ st'.blocks[b]? = some y ∧ flat E G x.1 = flat env' gs' y.1 ∧ ∀ s ∈ x.1, s.OK E G
 | [], _, _, _, h => by cases h
 | i :: r, k, h1, h2, h3 => by
  simp only [headIs, Bool.and_eq_true] at h1
  by_cases hi : isBlk r b = true
  ·exact headIs_blk h1.2 h2.2 hi
  ·simp only [isBlk, List.any_cons, Bool.or_eq_true] at h3
   have h4 := h3.resolve_right hi
   cases i with
   | slot u pcs => cases h4
   | row u T sz => cases h4
   | cont u T sz => cases h4
   | stay u v T sz => cases h4
   | blk c pcs =>
    simp only [beq_iff_eq] at h4
    subst h4
    obtain ⟨y, hy, q1, q2⟩ := h2.1
    have h5 := h1.1
    simp only [headI] at h5
    cases hx : head.blocks[c]? with
    | none => rw [hx] at h5; cases h5
    | some x =>
     rw [hx] at h5
     have e := all2_eq (fun s _ u hsu => Seg.same_eq hsu) (show all2 Seg.same x.1 (pcsS k pcs) = true from h5)
     exact ⟨x, y, rfl, hy, by rw [e]; exact q1, by rw [e]; exact q2⟩

theorem St.take {bs : List (Nat × List Value × TypeId)} (h : St w0 w bs) (n : Nat) : St w0 w (bs.take n) :=
 ⟨h.below, fun x hx => h.own x (List.mem_of_mem_take hx), h.apart.sublist (List.take_sublist _ _)⟩

theorem rows_two {rows : List RowS} (hp : rows.Pairwise fun r s => ∀ v u g, env'[r.kv]? = some v → env'[s.kv]? = some u → v.ownBlock = some g → u.ownBlock ≠ some g) {q q' : RowS} (hq : q ∈ rows) (hq' : q' ∈ rows) (hne : q ≠ q') {v u : Value} {g : Nat}
 (e : env'[q.kv]? = some v) (e' : env'[q'.kv]? = some u) (h1 : v.ownBlock = some g) (h2 : u.ownBlock = some g) : False := by
 induction rows with
 | nil => cases hq
 | cons y l ih =>
  obtain ⟨p1, p2⟩ := List.pairwise_cons.1 hp
  rcases List.mem_cons.1 hq with rfl | hr2
  ·rcases List.mem_cons.1 hq' with rfl | hs2
   ·exact hne rfl
   ·exact p1 q' hs2 v u g e e' h1 h2
  ·rcases List.mem_cons.1 hq' with rfl | hs2
   ·exact p1 q hr2 u v g e' e h2 h1
   ·exact ih p2 hr2 hs2
theorem rows_cons {st' : Sym} {n : RowS} {l : List RowS} {ks : List Nat} {kv0 : Nat} {v : Value} (hd : Den w0 M β st' env' gs' a w) (hg : ∀ g ∈ G, g ∈ gs') (r1 : RowsOK w0 w E G l)
 (r2 : ∀ r ∈ l, ∀ v g, E[r.kv]? = some v → v.ownBlock = some g → ∃ q ∈ st'.rows, q.kv ∈ ks ∧ env'[q.kv]? = some v) (q1 : E[n.kv]? = some v) (hin : RowIn w0 w E n)
 (hb : ∀ g, v.ownBlock = some g → ∃ q ∈ st'.rows, q.kv = kv0 ∧ kv0 ∉ ks ∧ env'[q.kv]? = some v) :
 RowsOK w0 w E G (n :: l) ∧ (∀ r ∈ n :: l, ∀ v g, E[r.kv]? = some v → v.ownBlock = some g → ∃ q ∈ st'.rows, q.kv ∈ kv0 :: ks ∧ env'[q.kv]? = some v) := by
 refine ⟨⟨fun s hs => ?_, fun s hs u g hu hg2 => ?_, ?_⟩, fun s hs u g hu hg2 => ?_⟩
 ·rcases List.mem_cons.1 hs with rfl | hs
  ·exact hin
  ·exact r1.own s hs
 ·rcases List.mem_cons.1 hs with rfl | hs
  ·rw [q1] at hu; cases hu
   obtain ⟨q, hq, _, _, e⟩ := hb g hg2
   exact fun hx => hd.rws.gs q hq v g e hg2 (hg g hx)
  ·exact r1.gs s hs u g hu hg2
 ·refine List.pairwise_cons.2 ⟨fun s hs u u' g hu hu' hg1 hg2 => ?_, r1.pw⟩
  rw [q1] at hu; cases hu
  obtain ⟨q, hq, hqk, hnin, e⟩ := hb g hg1
  obtain ⟨q', hq', hin', e'⟩ := r2 s hs u' g hu' hg2
  exact rows_two hd.rws.pw hq hq' (fun hh => hnin (by rw [← hqk, hh]; exact hin')) e e' hg1 hg2
 ·rcases List.mem_cons.1 hs with rfl | hs
  ·rw [q1] at hu; cases hu
   obtain ⟨q, hq, hqk, _, e⟩ := hb g hg2
   exact ⟨q, hq, by rw [hqk]; simp, e⟩
  ·obtain ⟨q, hq, hin', e⟩ := r2 s hs u g hu hg2
   exact ⟨q, hq, List.mem_cons_of_mem _ hin', e⟩

theorem rowsI_ok {st' : Sym} {hsl : List SV} (hd : Den w0 M β st' env' gs' a w) (hg : ∀ g ∈ G, g ∈ gs') (hE : ∀ (k : Nat) v, k < env0.length → env'[k]? = some v → E[k]? = some v) : ∀ {items : List Item} {k : Nat}, HeldIs E G env' gs' st' a k items → distinct (rowKs st' items) = true →
 (∀ i ∈ items, ∀ t T sz, i = .cont t T sz → ∃ kv, kvAt hsl t = some kv ∧ kvAt st'.slots t = some kv ∧ kv < env0.length) → (∀ i ∈ items, ∀ kv kc T sz, i = .stay kv kc T sz → kv < env0.length ∧ kc < env0.length) →
 RowsOK w0 w E G (rowsI hsl k items) ∧ (∀ r ∈ rowsI hsl k items, ∀ v g, E[r.kv]? = some v → v.ownBlock = some g → ∃ q ∈ st'.rows, q.kv ∈ rowKs st' items ∧ env'[q.kv]? = some v)
 | [], _, _, _, _, _ => ⟨⟨(by intro r hr; cases hr), (by intro r hr; cases hr), List.Pairwise.nil⟩, (by intro r hr; cases hr)⟩
 | .slot t pcs :: r, k, h, hdi, hc, hs => by
  obtain ⟨r1, r2⟩ := rowsI_ok hd hg hE h.2 hdi (fun i hi => hc i (List.mem_cons_of_mem _ hi)) fun i hi => hs i (List.mem_cons_of_mem _ hi)
  exact ⟨r1, r2⟩
 | .blk t pcs :: r, k, h, hdi, hc, hs => by
  obtain ⟨r1, r2⟩ := rowsI_ok hd hg hE h.2 hdi (fun i hi => hc i (List.mem_cons_of_mem _ hi)) fun i hi => hs i (List.mem_cons_of_mem _ hi)
  exact ⟨r1, r2⟩
 | .row t T sz :: r, k, h, hdi, hc, hs => by
  simp only [rowKs] at hdi
  obtain ⟨v, cs, q1, q2, q3, q4, q5, q6⟩ := h.1
  have hdi2 : distinct (rowKs st' r) = true := by
   split at hdi
   ·simp only [List.singleton_append, distinct, Bool.and_eq_true] at hdi; exact hdi.2
   ·exact hdi
  obtain ⟨r1, r2⟩ := rowsI_ok hd hg hE h.2 hdi2 (fun i hi => hc i (List.mem_cons_of_mem _ hi)) fun i hi => hs i (List.mem_cons_of_mem _ hi)
  rcases q6 with ⟨rfl, rfl⟩ | ⟨q, hq, ⟨kv, hkv, hqk⟩, rfl, rfl, e1, e2⟩
  ·obtain ⟨p1, p2⟩ := rows_cons (n := ⟨k, k + 1, T, sz⟩) (kv0 := 0) hd hg r1 r2 q1 ⟨_, [], 0, q1, q2, q3, World.ownsRow_nil _ _ _ _⟩ (fun g hg => by simp [Value.ownBlock] at hg)
   refine ⟨p1, fun s hsm u g hu hg2 => ?_⟩
   simp only [rowKs]
   rcases List.mem_cons.1 hsm with rfl | hsm
   ·rw [q1] at hu; cases hu; simp [Value.ownBlock] at hg2
   ·obtain ⟨q, hq, hin, e⟩ := r2 s hsm u g hu hg2
    exact ⟨q, hq, List.mem_append_right _ hin, e⟩
  ·obtain ⟨v', cs', m, h1, h2, h3, h4⟩ := hd.rws.own q hq
   rw [e1] at h1; cases h1
   rw [e2] at h2
   have ecs : cs = cs' := by
    simp only [Option.some.injEq, Value.agg.injEq] at h2
    have := congrArg Array.toList h2
    simpa using this
   subst ecs
   rw [hkv] at hdi
   simp only [List.singleton_append, distinct, Bool.and_eq_true, Bool.not_eq_true', List.contains_eq_mem, decide_eq_false_iff_not] at hdi
   have := rows_cons (n := ⟨k, k + 1, q.T, q.sz⟩) (kv0 := kv) hd hg r1 r2 q1 ⟨v, cs, m, q1, q2, q3, h4⟩ (fun g hg => ⟨q, hq, hqk, hdi.1, e1⟩)
   simp only [rowKs, hkv]
   exact this
 | .stay kv kc T sz :: r, k, h, hdi, hc, hs => by
  simp only [rowKs, distinct, Bool.and_eq_true, Bool.not_eq_true', List.contains_eq_mem, decide_eq_false_iff_not] at hdi
  obtain ⟨r1, r2⟩ := rowsI_ok hd hg hE h.2 hdi.2 (fun i hi => hc i (List.mem_cons_of_mem _ hi)) fun i hi => hs i (List.mem_cons_of_mem _ hi)
  have hq : (⟨kv, kc, T, sz⟩ : RowS) ∈ st'.rows := h.1
  obtain ⟨l1, l2⟩ := hs _ (by simp) kv kc T sz rfl
  obtain ⟨v, cs, m, h1, h2, h3, h4⟩ := hd.rws.own _ hq
  have hEv := hE _ _ l1 h1
  exact rows_cons (n := ⟨kv, kc, T, sz⟩) (kv0 := kv) hd hg r1 r2 hEv ⟨v, cs, m, hEv, hE _ _ l2 h2, h3, h4⟩ (fun g hg => ⟨_, hq, rfl, hdi.1, h1⟩)
 | .cont t T sz :: r, k, h, hdi, hc, hs => by
  simp only [rowKs] at hdi
  obtain ⟨v, cs, q2, q3, q, hq, hqk, rfl, rfl, e1, e2⟩ := h.1
  obtain ⟨kv, c1, c2, c3⟩ := hc _ (by simp) t q.T q.sz rfl
  have hkq : kv = q.kv := by rw [c2] at hqk; simpa using hqk
  subst hkq
  have hsl' : st'.slots.getD t .any = .leaf (.atom (.var q.kv)) := by
   unfold kvAt at c2
   split at c2
   ·rename_i kv' hx; rw [hx]; simp at c2; rw [c2]
   ·cases c2
  have hdi2 : distinct (rowKs st' r) = true := by
   rw [hsl'] at hdi
   simp only [List.singleton_append, distinct, Bool.and_eq_true] at hdi; exact hdi.2
  obtain ⟨r1, r2⟩ := rowsI_ok hd hg hE h.2 hdi2 (fun i hi => hc i (List.mem_cons_of_mem _ hi)) fun i hi => hs i (List.mem_cons_of_mem _ hi)
  obtain ⟨v', cs', m, h1, h2, h3, h4⟩ := hd.rws.own q hq
  rw [e1] at h1; cases h1
  rw [e2] at h2
  have ecs : cs = cs' := by
   simp only [Option.some.injEq, Value.agg.injEq] at h2
   have := congrArg Array.toList h2
   simpa using this
  subst ecs
  rw [hsl'] at hdi
  simp only [List.singleton_append, distinct, Bool.and_eq_true, Bool.not_eq_true', List.contains_eq_mem, decide_eq_false_iff_not] at hdi
  have hEv := hE _ _ c3 e1
  have := rows_cons (n := ⟨q.kv, k, q.T, q.sz⟩) (kv0 := q.kv) hd hg r1 r2 hEv ⟨v, cs, m, hEv, q2, q3, h4⟩ (fun g hg => ⟨q, hq, rfl, hdi.1, e1⟩)
  simp only [rowKs, hsl', rowsI, c1]
  exact this

theorem fits_ok {head st' : Sym} {items : List Item} {k0 : Nat} {ls : List Leaf} (hf : fits head st' items k0 = some ls) (hd : Den w0 M β st' env' gs' a w) (he : env0 <+: env') (hg : gs0 <+: gs') (hk : env0.length = k0)
 (hgl : gs0.length = head.blocks.length) (hn : head.n = k0 + (ksOf items).length)
 (okS : ∀ (t : Nat) x, head.slots[t]? = some x → x ≠ .any → isSlot items t = false → x.OK env0 gs0)
 (okB : ∀ (b : Nat) x, head.blocks[b]? = some x → isBlk items b = false → ∀ s ∈ x.1, s.OK env0 gs0) :
 VarsOK (ksOf items) (ls.map (Leaf.den env' gs')) ∧ Den w0 M β head (env0 ++ ls.map (Leaf.den env' gs')) gs0 a w := by
 unfold fits at hf
 split at hf
 ·rename_i hc
  simp only [Bool.and_eq_true, List.all_eq_true, List.mem_range, beq_iff_eq, Bool.or_eq_true] at hc
  obtain ⟨⟨⟨⟨⟨⟨c1, cr⟩, cc⟩, cd⟩, c2⟩, c3⟩, c4⟩ := hc
  have cr' : head.rows = rowsI head.slots k0 items := of_decide_eq_true cr
  have cc' : ∀ i ∈ items, ∀ t T sz, i = .cont t T sz → ∃ kv, kvAt head.slots t = some kv ∧ kvAt st'.slots t = some kv ∧ kv < env0.length := by
   rintro i hi t T sz rfl
   have := List.all_eq_true.1 cc _ hi
   simp only at this
   split at this
   ·rename_i a b ha hb
    simp only [Bool.and_eq_true, beq_iff_eq, decide_eq_true_eq] at this
    exact ⟨a, ha, by rw [hb, this.1], by omega⟩
   ·cases this
  have cs' : ∀ i ∈ items, ∀ kv kc T sz, i = .stay kv kc T sz → kv < env0.length ∧ kc < env0.length := by
   rintro i hi kv kc T sz rfl
   have := List.all_eq_true.1 cc _ hi
   simp only [Bool.and_eq_true, decide_eq_true_eq] at this
   omega
  obtain ⟨v1, v2⟩ := curIs_ok (E := env0 ++ ls.map (Leaf.den env' gs')) (G := gs0) hd hf
  have hH := v2 k0 fun j v hv => by
   rw [List.getElem?_append_right (by omega), hk, Nat.add_sub_cancel_left]; exact hv
  refine ⟨v1, ?_⟩
  have hpE : env0 <+: env0 ++ ls.map (Leaf.den env' gs') := List.prefix_append _ _
  have hpG : gs0 <+: gs0 := List.prefix_refl _
  -- a block of the head, against the one at hand
  have blkEq : ∀ (b : Nat) x, head.blocks[b]? = some x → ∃ y, st'.blocks[b]? = some y ∧ x.2 = y.2 ∧ flat (env0 ++ ls.map (Leaf.den env' gs')) gs0 x.1 = flat env' gs' y.1 ∧ ∀ s ∈ x.1, s.OK (env0 ++ ls.map (Leaf.den env' gs')) gs0 := by
   intro b x hx
   have h4 := c4 b (List.getElem?_eq_some_iff.1 hx).1
   rw [hx] at h4
   cases hy : st'.blocks[b]? with
   | none => rw [hy] at h4; simp at h4
   | some y =>
    rw [hy] at h4
    simp only [Bool.and_eq_true, beq_iff_eq, Bool.or_eq_true] at h4
    obtain ⟨h5, h6⟩ := h4
    refine ⟨y, rfl, h5, ?_⟩
    by_cases hi : isBlk items b = true
    ·obtain ⟨x', y', hx', hy', q1, q2⟩ := headIs_blk c1 hH hi
     rw [hx] at hx'; cases hx'
     rw [hy] at hy'; cases hy'
     exact ⟨q1, q2⟩
    ·have e := all2_eq (fun s _ u hsu => Seg.same_eq hsu) (h6.resolve_left hi)
     have ok := okB b x hx (by simpa using hi)
     obtain ⟨p1, p2⟩ := flat_pre hpE hpG ok
     obtain ⟨_, p4⟩ := flat_pre he hg ok
     exact ⟨by rw [p2, ← p4, e], p1⟩
  obtain ⟨hrows, hback⟩ := rowsI_ok (E := env0 ++ ls.map (Leaf.den env' gs')) (G := gs0) hd (fun g hh => by obtain ⟨e, rfl⟩ := hg; exact List.mem_append_left _ hh) (fun j v hj hv => by
   obtain ⟨e, rfl⟩ := he
   rw [List.getElem?_append_left hj] at hv ⊢; exact hv) hH cd cc' cs'
  refine ⟨?_, hgl, ?_, ?_, ?_, ?_, hd.df, by rw [cr']; exact hrows, ⟨hd.bas.up, fun q hq hlt => ?_⟩⟩
  rotate_left 5
  ·rcases hq with hq | ⟨r, hr, v, hv, hgv⟩
   ·exact hd.bas.own q (.inl (by obtain ⟨e, rfl⟩ := hg; exact List.mem_append_left _ hq)) hlt
   ·rw [cr'] at hr
    obtain ⟨p, hp, _, hpv⟩ := hback r hr v q hv hgv
    exact hd.bas.own q (.inr ⟨p, hp, v, hpv, hgv⟩) hlt
  ·rw [List.length_append, hk, hn, v1.1]
  ·rw [← c2]; exact hd.sl
  ·intro t x ht hx
   have hlt : t < head.slots.length := (List.getElem?_eq_some_iff.1 ht).1
   have e0 : head.slots.getD t .any = x := by simp [List.getD, ht]
   by_cases hi : isSlot items t = true
   ·obtain ⟨x', e1, e2, e3⟩ := headIs_slot c1 hH hi
    rw [e0] at e1
    subst e1
    exact ⟨e2.symm, e3⟩
   ·have h3 := c3 t hlt
    rw [e0] at h3
    have h4 : x.same (st'.slots.getD t .any) = true := by
     rcases h3 with (h3 | h3) | h3
     ·cases x <;> first | exact absurd rfl hx | cases h3
     ·exact absurd h3 hi
     ·exact h3
    have e := SV.same_eq h4
    have hlt' : t < st'.slots.length := by rw [c2]; exact hlt
    have ht' : st'.slots[t]? = some x := by rw [e]; simp [List.getD, hlt']
    obtain ⟨g1, _⟩ := hd.slots t x ht' hx
    have ok := okS t x ht hx (by simpa using hi)
    obtain ⟨p1, p2⟩ := SV.pre hpE hpG ok
    obtain ⟨_, p4⟩ := SV.pre he hg ok
    exact ⟨by rw [g1, p2, p4], p1⟩
  ·have e : bsD (env0 ++ ls.map (Leaf.den env' gs')) gs0 head.blocks = (bsD env' gs' st'.blocks).take head.blocks.length := by
    apply List.ext_getElem?
    intro i
    rw [List.getElem?_take]
    unfold bsD
    rw [List.getElem?_zipWith, List.getElem?_zipWith]
    by_cases hi : i < head.blocks.length
    ·rw [if_pos hi]
     obtain ⟨y, hy, q1, q2, _⟩ := blkEq i _ (List.getElem?_eq_getElem hi)
     have g1 : gs0[i]? = some (gs0.getD i 0) := by simp [List.getD, List.getElem?_eq_getElem (show i < gs0.length by omega)]
     have g2 : gs'[i]? = some (gs0.getD i 0) := by
      obtain ⟨e, rfl⟩ := hg
      rw [List.getElem?_append_left (by omega)]; exact g1
     rw [g1, g2, List.getElem?_eq_getElem hi, hy]
     simp only [catS_flat, q1, q2]
    ·rw [if_neg hi]
     have : head.blocks[i]? = none := by simp; omega
     rw [this]
     cases gs0[i]? <;> rfl
   rw [e]
   exact hd.mem.take _
  ·intro b hb s hs
   obtain ⟨i, hi⟩ := List.mem_iff_getElem?.1 hb
   obtain ⟨_, _, _, _, q⟩ := blkEq i b hi
   exact q s hs
 ·cases hf
end
end Go.Proofs.Ytdpongijmmdnoaa
/- The trees are sound: regions, code, functions. Over any program. -/
namespace Go.Proofs.Ytdpongijmmdnoaa
open Go.RowKit

section
variable {P : Program} {orc : Orc} {fn : Func} {w0 : World} {M : Marks} {β : Base} {R : Ending → World → Prop} {st : Sym} {env env' : List Value} {gs gs' : List Nat} {a : Act} {w : World} {ops : Array Oper} {Q : Exit → Act → World → Prop} {L : List (List Value → Base → Prop)}

def Goes (P : Program) (w0 : World) (M : Marks) (R : Ending → World → Prop) (L : List (List Value → Base → Prop)) (k : Sym → Option Tree) (env : List Value) (gs : List Nat) (w : World) (K : Act → World → Prop) : Prop :=
 ∀ st' t' L' env' gs' β' a' w', w.heap.size ≤ w'.heap.size → k st' = some t' → L <+: L' → L'.length = st'.dep → env <+: env' → gs <+: gs' → Den w0 M β' st' env' gs' a' w' → TWb P w0 R t' L' env' gs' β' → K a' w'
def InlOK (P : Program) (inl : Inl) : Prop := ∀ (oi : Orc) (w0 : World) (M : Marks) (R : Ending → World → Prop) (L : List (List Value → Base → Prop)) (st : Sym) (env : List Value) (gs : List Nat) (β : Base) (a : Act) (w : World) (o : Oper) (k : Sym → Option Tree) (t : Tree)
 (Q : Exit → Act → World → Prop) (K : Act → World → Prop), inl oi st o k = some t → Den w0 M β st env gs a w → L.length = st.dep → TWb P w0 R t L env gs β → Goes P w0 M R L k env gs w K → o.wp P a w K Q
variable {inl : Inl}
theorem opC_ok (hI : InlOK P inl) {o : Oper} {k : Sym → Option Tree} {t : Tree} (hq : opC P orc inl ops o st k = some t) (h : Den w0 M β st env gs a w) (hL : L.length = st.dep) (hT : TWb P w0 R t L env gs β) {K : Act → World → Prop}
 (hK : Goes P w0 M R L k env gs w K) :
 (Region.wanted o (yielded ops a.tmps) = true → o.wp P a w K Q) ∧ (Region.wanted o (yielded ops a.tmps) = false → K (a.put o.dst undef) w) := by
 unfold opC at hq
 have hp : env <+: env := List.prefix_refl _
 have hg : gs <+: gs := List.prefix_refl _
 have hl : L <+: L := List.prefix_refl _
 split at hq
 ·cases hq
 ·rename_i hgd
  have hw := gdS_ok h hgd
  refine ⟨fun h1 => (by rw [hw] at h1; cases h1), fun _ => hK _ t L env gs β _ w (Nat.le_refl _) hq hl ?_ hp hg (h.put o.dst (fun _ => ⟨rfl, fun x hx => by cases hx⟩)) hT⟩
  cases o.dst <;> exact hL
 ·rename_i hgd
  have hw := gdS_ok h hgd
  refine ⟨fun _ => ?_, fun h1 => (by rw [hw] at h1; cases h1)⟩
  split at hq
  ·split at hq
   ·exact hI _ _ _ _ _ _ _ _ _ _ _ _ _ _ _ _ hq h hL hT hK
   ·have := callC_ok (Q := Q) hq h hT (Fut.refl w)
    exact Oper.wp_mono (fun a' w' ⟨hF, st', t', env', gs2, β', h1, h2, h3, _, h4, h5, _⟩ => hK st' t' L env' (gs ++ gs2) β' a' w' hF.size h1 hl (hL.trans h2.1.symm) h3 (List.prefix_append _ _) h4 h5) this
  ·exact storeC_ok hq h hT fun st' t' env' a' w' hs h1 h2 h3 h4 h5 => hK st' t' L env' gs β a' w' hs h1 hl (hL.trans h2.symm) h3 hg h4 h5
  ·exact appC_ok hq h hT fun st' t' env' a' w' hs h1 h2 h3 h4 h5 => hK st' t' L env' gs β a' w' hs h1 hl (hL.trans h2.symm) h3 hg h4 h5
  ·obtain ⟨vs, ty, kd, hm, hk⟩ := makeC_ok hq h hT
   unfold Oper.wp
   rw [hm w, Oper.upon_value]
   have hlt := h.mem.below.size
   have hF : Fut w (w.alloc (.cells vs.toArray ty (0, 0))) := (Below.refl _ _).alloc (Nat.le_refl _) _
   obtain ⟨st', t', env', gs', h1, h2, h3, h4, _, _, h5, h6⟩ := hk _ hF w.heap.size hlt (fun hx => by have := h.bas.up.size; omega) (fun hx => by have := (h.gs_lt _ hx).2; omega) (fun r hr v hv hb => by have := ((h.rws.own r hr).lt hv hb).2; omega) (Own.new w vs ty)
   exact hK st' t' L env' gs' β _ _ hF.size h1 hl (hL.trans h2.symm) h3 h4 h5 h6
  ·obtain ⟨v, st', t', env', hy, h1, h2, h3, h4, h5⟩ := quietC_ok hq h hT
   unfold Oper.wp
   rw [hy w (Fut.refl w), Oper.upon_value]
   exact hK st' t' L env' gs β _ w (Nat.le_refl _) h1 hl (hL.trans h2.1.symm) h3 hg h4 h5

theorem Goes.later {k : Sym → Option Tree} {L' : List (List Value → Base → Prop)} {w' : World} {K : Act → World → Prop} (h : Goes P w0 M R L k env gs w K) (h1 : L <+: L') (h2 : env <+: env') (h3 : gs <+: gs') (h4 : w.heap.size ≤ w'.heap.size) : Goes P w0 M R L' k env' gs' w' K :=
 fun st' t' L2 e2 g2 b2 a2 w2 q1 q2 q3 q4 q5 q6 q7 q8 => h st' t' L2 e2 g2 b2 a2 w2 (Nat.le_trans h4 q1) q2 (h1.trans q3) q4 (h2.trans q5) (h3.trans q6) q7 q8
theorem apcC_ok {o o' : Oper} {r : List Oper} {k : Sym → Option Tree} {t : Tree} (hq : apcC P orc st o o' k = some t) (h : Den w0 M β st env gs a w) (hT : TWb P w0 R t L env gs β)
 (hK : ∀ st' t' env' β' a' w', w.heap.size ≤ w'.heap.size → k st' = some t' → st'.dep = st.dep → env <+: env' → Den w0 M β' st' env' gs a' w' → TWb P w0 R t' L env' gs β' → wpList P ops Q r a' w') : wpList P ops Q (o :: o' :: r) a w := by
 unfold apcC at hq
 split at hq
 ·cases hq
 rename_i hgd
 simp only [Bool.or_eq_true, not_or, Bool.not_eq_true, Option.isSome_eq_false_iff, Option.isNone_iff_eq_none] at hgd
 obtain ⟨g1, g2⟩ := hgd
 obtain ⟨d, hd, hq⟩ := Option.bind_eq_some_iff.1 hq
 split at hq
 ·cases hq
 rename_i hlt
 simp only [Bool.not_eq_true', Bool.not_eq_false, decide_eq_true_eq] at hlt
 split at hq
 case h_2 => cases hq
 rename_i c hop
 split at hq
 case h_2 => cases hq
 rename_i g d' hcal hargs
 split at hq
 ·cases hq
 rename_i hdd
 simp only [Bool.or_eq_true, not_or, Bool.not_eq_true, bne_eq_false_iff_eq, Bool.not_eq_false'] at hdd
 obtain ⟨rfl, hen⟩ := hdd
 obtain ⟨m, hm, hq⟩ := Option.bind_eq_some_iff.1 hq
 obtain ⟨rw1, hrw, hq⟩ := Option.bind_eq_some_iff.1 hq
 obtain ⟨an, _, hq⟩ := Option.bind_eq_some_iff.1 hq
 obtain ⟨m1, new, el, sz⟩ := m
 cases hrw
 have w1 : Region.wanted o (yielded ops a.tmps) = true := by unfold Region.wanted; rw [g1]
 cases an with
 | two s s' => cases hq
 | fresh s q => cases hq
 | one s =>
 simp only at hq
 split at hq
 case isFalse => cases hq
 rename_i hnb
 obtain ⟨t1, hk, rfl⟩ := Option.map_eq_some_iff.1 hq
 obtain ⟨hlen, hT⟩ := (show _ ∧ _ from hT)
 obtain ⟨v', w', mm, hrun, hv1, hown, hsz, hd1⟩ := appS_run h hm hlen
 refine wpList_step fun K hKK => ?_
 rw [if_pos w1]
 unfold Oper.wp
 rw [hrun, Oper.upon_value]
 refine hKK _ _ ?_
 have hd2 : Den w0 M β (st.put o.dst .any) env gs (a.put o.dst v') w' := hd1.put o.dst (fun hh => absurd rfl hh)
 have hev : (a.put o.dst v').eval (.tmp d) = v' := by
  have : d < a.tmps.size := by rw [h.sl]; exact hlt
  rw [hd]; simp [Act.put, Act.eval, this]
 refine wpList_step fun K2 hKK2 => ?_
 have w2 : Region.wanted o' (yielded ops (a.put o.dst v').tmps) = true := by unfold Region.wanted; rw [g2]
 rw [if_pos w2]
 have hca : c.args = #[.tmp d] := by apply Array.ext'; simpa using hargs
 have hfv : (a.put o.dst v').eval (.func g) = .func (.func g) #[] #[] := rfl
 have hrun2 : (execOp (a.put o.dst v').eval o').run P w' = .ok (.enter g #[v']) w' := by
  unfold execOp
  simp only [hop, resolve, hcal, hca, List.map_toArray, List.map_cons, List.map_nil, hev, hfv, Deferred.ofValue, Sem.run_bind, Sem.run_pure, Result.andThen_ok, invoke]
  exact canEnter_ok hen #[v'] w'
 unfold Oper.wp
 rw [hrun2, Oper.upon_enter]
 refine Calls.mono (hT w' v' mm hd1.mem.below.size hd1.bas.up hv1 hown) fun e w'' hg => ?_
 obtain ⟨vs, gs2, hn, hl, rfl, ok, okb, hF, hNB, hT'⟩ := hg
 obtain rfl : gs2 = [] := List.eq_nil_of_length_eq_zero hl
 rw [List.append_nil] at hT' ok
 simp only [List.append_nil]
 refine hKK2 _ _ ?_
 have hd3 := (hd2.grow vs hn).fut hF
 have hd4 : Den w0 M (β.next w' w'' []) ((st.put o.dst .any).grow s.n) (env ++ vs) gs (a.put o.dst v') w'' := hd3.base ⟨⟨Nat.le_refl _, fun _ _ _ => rfl⟩, fun k hk _ => .inl ⟨by
  rcases hk with hk | ⟨r, hr, v, hv, hg⟩
  ·exact (hd2.gs_lt k hk).2
  ·have hr' := hd2.rws.own r hr
   exact (hr'.lt (hr'.back (List.prefix_append _ _) hv) hg).2, fun hlt => hd3.bas.own k hk hlt⟩⟩ (fun m hm hx _ => .inl ⟨hd2.df.lt hm, hx⟩)
 refine hK _ t1 (env ++ vs) _ _ w'' (Nat.le_trans hsz hF.size) hk ?_ (List.prefix_append _ _) (hd4.put o'.dst (fun _ => ⟨rfl, ok⟩)) hT'
 cases o'.dst <;> (cases o.dst <;> rfl)
theorem seqC_ok (hI : InlOK P inl) : ∀ (l : List Oper) (β : Base) (st : Sym) (L : List (List Value → Base → Prop)) (env : List Value) (gs : List Nat) (a : Act) (w : World) (k : Sym → Option Tree) (t : Tree), seqC P orc inl ops l st k = some t → Den w0 M β st env gs a w → L.length = st.dep → TWb P w0 R t L env gs β →
 Goes P w0 M R L k env gs w (fun a' w' => Q .normal a' w') → wpList P ops Q l a w
 | [], β, st, L, env, gs, a, w, k, t, hq, h, hL, hT, hK => hK st t L env gs β a w (Nat.le_refl _) hq (List.prefix_refl _) hL (List.prefix_refl _) (List.prefix_refl _) h hT
 | [o], β, st, L, env, gs, a, w, k, t, hq, h, hL, hT, hK => by
  refine wpList_step fun K hKK => ?_
  have := opC_ok (Q := Q) hI hq h hL hT (K := K) fun st' t' L' env' gs' β' a' w' hs h1 hl hd h3 h4 h5 h6 =>
   hKK a' w' (hK st' t' L' env' gs' β' a' w' hs h1 hl hd h3 h4 h5 h6)
  split
  ·rename_i hw; exact this.1 hw
  ·rename_i hw; exact this.2 (by simpa using hw)
 | o :: o' :: r, β, st, L, env, gs, a, w, k, t, hq, h, hL, hT, hK => by
  rw [seqC] at hq
  split at hq
  ·exact apcC_ok hq h hT fun st' t' env' β' a' w' hs h1 h2 h3 h4 h5 =>
    seqC_ok hI r β' st' L env' gs a' w' k t' h1 h4 (hL.trans h2.symm) h5 (hK.later (List.prefix_refl _) h3 (List.prefix_refl _) hs)
  ·refine wpList_step fun K hKK => ?_
   have := opC_ok (Q := Q) hI hq h hL hT (K := K) fun st' t' L' env' gs' β' a' w' hs h1 hl hd h3 h4 h5 h6 =>
    hKK a' w' (seqC_ok hI (o' :: r) β' st' L' env' gs' a' w' k t' h1 h5 hd h6 (hK.later hl h3 h4 hs))
   split
   ·rename_i hw; exact this.1 hw
   ·rename_i hw; exact this.2 (by simpa using hw)

theorem armS_ok (h : Den w0 M β st env gs a w) {i : Nat} (ha : armS P ops st i = true) : Armed P ops i a := by
 unfold armS at ha
 cases ho : ops[i]? with
 | none => rw [ho] at ha; cases ha
 | some o =>
  rw [ho] at ha
  simp only [Option.map_some, Option.getD_some, Bool.and_eq_true, beq_iff_eq] at ha
  obtain ⟨m, hm⟩ := Option.isSome_iff_exists.1 ha.2
  exact ⟨o, _, _, _, ho, gdS_ok h ha.1, (mkS_ok hm h).1⟩

theorem rowsB {st' : Sym} {B : Nat} {tk : List Nat} (h : Den w0 M β st env gs a w) (hk : Kin st st') (he : env <+: env') (hr : ∀ r ∈ st.rows, ∀ v g, env[r.kv]? = some v → v.ownBlock = some g → g < B ∨ g ∈ tk) :
 ∀ r ∈ st'.rows, ∀ v g, env'[r.kv]? = some v → v.ownBlock = some g → g < B ∨ g ∈ tk := by
 intro r hm v g hv hg
 have hm := hk.2 r hm
 exact hr r hm v g ((h.rws.own r hm).back he hv) hg

theorem ordCl_ok (hI : InlOK P inl) {B : Nat} : ∀ (ord : List Ko), ord.all Ko.isLast = true → ∀ (β : Base) (st : Sym) (L : List (List Value → Base → Prop)) (env : List Value) (gs tk : List Nat) (a : Act) (w : World) (k : Sym → Option Tree) (t : Tree), ordC P orc inl ops ord st k = some t → Den w0 M β st env gs a w → L.length = st.dep → TWb P w0 R t L env gs β →
 Goes P w0 M R L k env gs w (fun a' w' => Q .normal a' w') → RunK P ops Q B ord tk a w
 | [], _, β, st, L, env, gs, tk, a, w, k, t, hq, h, hL, hT, hK => fun W hW => hK st t L env gs β a W hW.size hq (List.prefix_refl _) hL (List.prefix_refl _) (List.prefix_refl _) (h.fut hW) hT
 | .last i :: r, hal, β, st, L, env, gs, tk, a, w, k, t, hq, h, hL, hT, hK => by
  simp only [List.all_cons, Bool.and_eq_true] at hal
  simp only [ordC] at hq
  rw [if_pos hal.2] at hq
  obtain ⟨o, ho, hq⟩ := Option.bind_eq_some_iff.1 hq
  intro W hW
  have := opC_ok (Q := Q) hI hq (h.fut hW) hL hT (K := fun a' w' => W.heap.size ≤ w'.heap.size ∧ RunK P ops Q B r tk a' w') fun st' t' L' env' gs' β' a' w' hs h1 hl hd h3 h4 h5 h6 =>
   ⟨hs, ordCl_ok hI r hal.2 β' st' L' env' gs' tk a' w' k t' h1 h5 hd h6 (hK.later hl h3 h4 (Nat.le_trans hW.size hs))⟩
  unfold wpOp
  simp only [ho]
  split
  ·rename_i hw; exact .inl (this.1 hw)
  ·rename_i hw; exact this.2 (by simpa using hw)
 | .quiet _ :: _, hal, _, _, _, _, _, _, _, _, _, _, _, _, _, _, _ => by simp [Ko.isLast] at hal
 | .pure _ :: _, hal, _, _, _, _, _, _, _, _, _, _, _, _, _, _, _ => by simp [Ko.isLast] at hal
 | .call _ _ :: _, hal, _, _, _, _, _, _, _, _, _, _, _, _, _, _, _ => by simp [Ko.isLast] at hal
 | .make _ _ :: _, hal, _, _, _, _, _, _, _, _, _, _, _, _, _, _, _ => by simp [Ko.isLast] at hal
theorem ordC_ok (hI : InlOK P inl) {B : Nat} (hB : w0.heap.size ≤ B) : ∀ (ord : List Ko) (β : Base) (st : Sym) (env : List Value) (gs tk : List Nat) (a : Act) (w : World) (k : Sym → Option Tree) (t : Tree), ordC P orc inl ops ord st k = some t → Den w0 M β st env gs a w → L.length = st.dep → TWb P w0 R t L env gs β →
 (∀ g ∈ gs, g < B ∨ g ∈ tk) → (∀ r ∈ st.rows, ∀ v g, env[r.kv]? = some v → v.ownBlock = some g → g < B ∨ g ∈ tk) → (∀ g, B ≤ g → g ∉ tk → g < β.w.heap.size → β.x g) →
 Goes P w0 M R L k env gs w (fun a' w' => Q .normal a' w') → RunK P ops Q B ord tk a w
 | [], β, st, env, gs, tk, a, w, k, t, hq, h, hL, hT, _, _, _, hK => fun W hW => hK st t L env gs β a W hW.size hq (List.prefix_refl _) hL (List.prefix_refl _) (List.prefix_refl _) (h.fut hW) hT
 | .quiet i :: r, β, st, env, gs, tk, a, w, k, t, hq, h, hL, hT, hi, hr0, hx, hK => by
  simp only [ordC] at hq
  obtain ⟨o, ho, hq⟩ := Option.bind_eq_some_iff.1 hq
  split at hq
  ·cases hq
  ·rename_i hgd
   have hd' := h.put o.dst (v := .tup []) (x := undef) (fun _ => ⟨rfl, fun x hx => by cases hx⟩)
   exact ⟨o, undef, ho, .inr ⟨gdS_ok h hgd, rfl⟩, ordC_ok hI hB r β _ env gs tk _ w k t hq hd' (by cases o.dst <;> exact hL) hT hi (by rw [show (st.put o.dst (.tup [])).rows = st.rows from by cases o.dst <;> rfl]; exact hr0) hx hK⟩
  ·rename_i hgd
   obtain ⟨v, st', t', env', hy, h1, h2, h3, h4, h5⟩ := quietC_ok hq h hT
   exact ⟨o, v, ho, .inl ⟨gdS_ok h hgd, hy⟩, ordC_ok hI hB r β st' env' gs tk _ w k t' h1 h4 (hL.trans h2.1.symm) h5 hi (rowsB h h2 h3 hr0) hx (hK.later (List.prefix_refl _) h3 (List.prefix_refl _) (Nat.le_refl _))⟩
 | .pure i :: r, β, st, env, gs, tk, a, w, k, t, hq, h, hL, hT, hi, hr0, hx, hK => by
  simp only [ordC] at hq
  obtain ⟨o, ho, hq⟩ := Option.bind_eq_some_iff.1 hq
  split at hq
  ·cases hq
  ·rename_i hgd
   have hd' := h.put o.dst (v := .tup []) (x := undef) (fun _ => ⟨rfl, fun x hx => by cases hx⟩)
   exact ⟨o, undef, ho, .inr ⟨gdS_ok h hgd, rfl⟩, ordC_ok hI hB r β _ env gs tk _ w k t hq hd' (by cases o.dst <;> exact hL) hT hi (by rw [show (st.put o.dst (.tup [])).rows = st.rows from by cases o.dst <;> rfl]; exact hr0) hx hK⟩
  ·rename_i hgd
   split at hq
   ·rename_i hp
    obtain ⟨v, hv, hq⟩ := Option.bind_eq_some_iff.1 hq
    obtain ⟨h1, h2⟩ := qpure_ok hp hv h
    have hd' := h.put o.dst (v := v) (x := v.den env gs) (fun _ => ⟨rfl, h2⟩)
    exact ⟨o, v.den env gs, ho, .inl ⟨gdS_ok h hgd, fun W _ => h1 W⟩, ordC_ok hI hB r β _ env gs tk _ w k t hq hd' (by cases o.dst <;> exact hL) hT hi (by rw [show (st.put o.dst v).rows = st.rows from by cases o.dst <;> rfl]; exact hr0) hx hK⟩
   ·split at hq
    ·obtain ⟨an, _, hq⟩ := Option.bind_eq_some_iff.1 hq
     split at hq
     ·rename_i s _
      obtain ⟨t1, hc, rfl⟩ := Option.map_eq_some_iff.1 hq
      obtain ⟨vs, hn, ok, hex, hT'⟩ := hT
      have hd' := (h.grow vs hn).put o.dst (v := s.r.shift st.n st.blocks.length) (fun _ => ⟨rfl, ok⟩)
      have hKin : Kin st ((st.grow s.n).put o.dst (s.r.shift st.n st.blocks.length)) := by cases o.dst <;> exact ⟨rfl, fun _ h => h⟩
      exact ⟨o, _, ho, .inl ⟨gdS_ok h hgd, fun W _ => hex o a W rfl rfl (evOf_ok h o.op)⟩, ordC_ok hI hB r β _ (env ++ vs) gs tk _ w k t1 hc hd' (hL.trans hKin.1.symm) hT' hi (rowsB h hKin (List.prefix_append _ _) hr0) hx
       (hK.later (List.prefix_refl _) (List.prefix_append _ _) (List.prefix_refl _) (Nat.le_refl _))⟩
     ·cases hq
    ·cases hq
 | .call i pend :: r, β, st, env, gs, tk, a, w, k, t, hq, h, hL, hT, hi, hr0, hx, hK => by
  simp only [ordC] at hq
  split at hq
  ·rename_i hpend
   obtain ⟨o, ho, hq⟩ := Option.bind_eq_some_iff.1 hq
   refine ⟨fun j hj => armS_ok h (List.all_eq_true.1 hpend j hj), fun W hW => ?_⟩
   unfold wpOp
   simp only [ho]
   split at hq
   ·cases hq
   ·rename_i hgd
    have hw := gdS_ok h hgd
    simp only [hw, Bool.false_eq_true, if_false]
    have hd' := (h.fut hW).put o.dst (v := .tup []) (x := undef) (fun _ => ⟨rfl, fun x hx => by cases hx⟩)
    exact ⟨Fut.refl W, [], by simp, ordC_ok hI hB r β _ env gs tk _ W k t hq hd' (by cases o.dst <;> exact hL) hT hi (by rw [show (st.put o.dst (.tup [])).rows = st.rows from by cases o.dst <;> rfl]; exact hr0) hx (hK.later (List.prefix_refl _) (List.prefix_refl _) (List.prefix_refl _) hW.size)⟩
   ·rename_i hgd
    have hw := gdS_ok h hgd
    simp only [hw, if_true]
    refine .inl (Oper.wp_mono (fun a' w' ⟨hF, st', t', env', gs2, β', h1, h2, h3, hb, h4, h5, h6, h7⟩ => ?_) (callC_ok (Q := Q) hq h hT hW))
    have hrg : ∀ x, x ∈ List.range' W.heap.size (w'.heap.size - W.heap.size) ↔ W.heap.size ≤ x ∧ x < w'.heap.size := fun x => by
     rw [List.mem_range'_1]; have := hF.size; omega
    refine ⟨hF, List.range' W.heap.size (w'.heap.size - W.heap.size), fun x hx => (hrg x).1 hx, ordC_ok hI hB r β' st' env' (gs ++ gs2) _ a' w' k t' h1 h4 (hL.trans h2.1.symm) h5 (fun g hg => ?_) (fun q hq v g hv hg => ?_) (fun g q1 q2 q3 => ?_) (hK.later (List.prefix_refl _) h3 (List.prefix_append _ _) (Nat.le_trans hW.size hF.size))⟩
    ·rcases List.mem_append.1 hg with hg | hg
     ·rcases hi g hg with h6 | h6
      ·exact .inl h6
      ·exact .inr (List.mem_append_right _ h6)
     ·exact .inr (List.mem_append_left _ ((hrg g).2 (hb g hg)))
    ·rcases h2.2 q hq v g hv hg with ⟨p, hp, u, hu, hgu⟩ | hh
     ·exact (hr0 p hp u g hu hgu).imp id fun h6 => List.mem_append_right _ h6
     ·exact .inr (List.mem_append_left _ ((hrg g).2 hh))
    ·have q4 : g < W.heap.size := by
      rcases Nat.lt_or_ge g W.heap.size with q | q
      ·exact q
      ·exact absurd (List.mem_append_left _ ((hrg g).2 ⟨q, by omega⟩)) q2
     refine h7 g q4 (fun q5 => hx g q1 (fun q6 => q2 (List.mem_append_right _ q6)) q5) fun p hp v hv hg => ?_
     rcases hr0 p hp v g hv hg with h8 | h8
     ·omega
     ·exact q2 (List.mem_append_right _ h8)
  ·cases hq
 | .make i pend :: r, β, st, env, gs, tk, a, w, k, t, hq, h, hL, hT, hi, hr0, hx, hK => by
  simp only [ordC] at hq
  split at hq
  ·rename_i hpend
   obtain ⟨o, ho, hq⟩ := Option.bind_eq_some_iff.1 hq
   refine ⟨fun j hj => armS_ok h (List.all_eq_true.1 hpend j hj), ?_⟩
   split at hq
   ·rename_i hgd
    obtain ⟨vs, ty, kd, hm, hk⟩ := makeC_ok hq h hT
    refine ⟨o, vs, ty, kd, ho, gdS_ok h hgd, hm, fun W hW g hg hn hO => ?_⟩
    obtain ⟨st', t', env', gs', h1, h2, h3, h4, h7, h8, h5, h6⟩ := hk W hW g (by omega) (hx g hg hn) (fun hx => by
     rcases hi g hx with h6 | h6
     ·omega
     ·exact hn h6) (fun r hr v hv hb => by
     rcases hr0 r hr v g hv hb with h6 | h6
     ·omega
     ·exact hn h6) hO
    refine ordC_ok hI hB r β st' env' gs' (g :: tk) _ W k t' h1 h5 (hL.trans h2.symm) h6 (fun x hx => ?_) (fun q hq v b hv hb => ?_) (fun p q1 q2 => hx p q1 (fun q => q2 (List.mem_cons_of_mem _ q))) (hK.later (List.prefix_refl _) h3 h4 hW.size)
    ·rcases h7 x hx with hx | rfl
     ·rcases hi x hx with h6 | h6
      ·exact .inl h6
      ·exact .inr (List.mem_cons_of_mem _ h6)
     ·exact .inr List.mem_cons_self
    ·rcases h8 q hq v b hv hb with ⟨p, hp, u, hu, hbu⟩ | rfl
     ·exact (hr0 p hp u b hu hbu).imp id fun h6 => List.mem_cons_of_mem _ h6
     ·exact .inr List.mem_cons_self
   ·cases hq
  ·cases hq
 | .last i :: r, β, st, env, gs, tk, a, w, k, t, hq, h, hL, hT, hi, hr0, hx, hK => by
  have hl : r.all Ko.isLast = true := by
   simp only [ordC] at hq
   split at hq
   ·assumption
   ·cases hq
  exact ordCl_ok hI (.last i :: r) (by simp only [List.all_cons, Ko.isLast, hl, Bool.true_and]) β st L env gs tk a w k t hq h hL hT hK

theorem bothL_ok {β : Base} : ∀ {l : List (Option Tree)} {t : Tree}, bothL l = some t → TWb P w0 R t L env gs β → ∀ x ∈ l, ∃ u, x = some u ∧ TWb P w0 R u L env gs β
 | [], _, h, _ => by cases h
 | [x], t, h, hT => fun y hy => by
  simp only [List.mem_singleton] at hy
  subst hy
  exact ⟨t, h, hT⟩
 | x :: z :: r, t, h, hT => by
  simp only [bothL] at h
  obtain ⟨t1, h1, h⟩ := Option.bind_eq_some_iff.1 h
  obtain ⟨t2, h2, rfl⟩ := Option.map_eq_some_iff.1 h
  obtain ⟨T1, T2⟩ := (show _ ∧ _ from hT)
  intro y hy
  rcases List.mem_cons.1 hy with rfl | hy
  ·exact ⟨t1, h1, T1⟩
  ·exact bothL_ok h2 T2 y hy
theorem allC_ok (hI : InlOK P inl) {B : Nat} : ∀ (n : Nat) (listed : Array Bool) (β : Base) (st : Sym) (L : List (List Value → Base → Prop)) (env : List Value) (gs tk : List Nat) (a : Act) (w : World) (k : Sym → Option Tree) (t : Tree), allC P orc inl ops n listed st k = some t → Den w0 M β st env gs a w → L.length = st.dep → TWb P w0 R t L env gs β →
 Goes P w0 M R L k env gs w (fun a' w' => Q .normal a' w') → AnyK P ops Q B (fun _ => true) (fun _ => false) n listed tk a w := by
 intro n
 induction n with
 | zero =>
  intro listed β st L env gs tk a w k t hq h hL hT hK
  simp only [allC] at hq
  split at hq
  ·rename_i hr
   exact ⟨by simpa using hr, fun W hW => hK st t L env gs β a W hW.size hq (List.prefix_refl _) hL (List.prefix_refl _) (List.prefix_refl _) (h.fut hW) hT⟩
  ·cases hq
 | succ n ih =>
  intro listed β st L env gs tk a w k t hq h hL hT hK
  simp only [allC] at hq
  split at hq
  ·rename_i hr
   refine ⟨fun _ W hW => hK st t L env gs β a W hW.size hq (List.prefix_refl _) hL (List.prefix_refl _) (List.prefix_refl _) (h.fut hW) hT, fun i hi => ?_⟩
   have hr' : Region.ready .any ops listed = [] := by simpa using hr
   rw [hr'] at hi; cases hi
  ·rename_i hr
   refine ⟨fun hr' => absurd (by simp [hr']) hr, fun i hi W hW => ⟨fun ha => (by cases ha), fun _ => ?_⟩⟩
   obtain ⟨u, hu, hTu⟩ := bothL_ok hq hT _ (List.mem_map.2 ⟨i, hi, rfl⟩)
   obtain ⟨o, ho, hu⟩ := Option.bind_eq_some_iff.1 hu
   have := opC_ok (Q := Q) hI hu (h.fut hW) hL hTu (K := fun a' w' => (true = false → Fut W w') ∧ W.heap.size ≤ w'.heap.size ∧ ∃ tk', (∀ x ∈ tk', W.heap.size ≤ x ∧ x < w'.heap.size) ∧ AnyK P ops Q B (fun _ => true) (fun _ => false) n (listed.setIfInBounds i true) (tk' ++ tk) a' w') fun st' t' L' env' gs' β' a' w' hs h1 hl hd h3 h4 h5 h6 =>
    ⟨fun hh => (by cases hh), hs, [], by simp, ih _ β' st' L' env' gs' tk a' w' k t' h1 h5 hd h6 (hK.later hl h3 h4 (Nat.le_trans hW.size hs))⟩
   unfold wpOp
   simp only [ho]
   split
   ·rename_i hw; exact .inl (this.1 hw)
   ·rename_i hw; exact this.2 (by simpa using hw)

theorem stepD_opC (P : Program) (orc : Orc) (inl : Inl) (ops : Array Oper) {o : Oper} {st st' : Sym} (h : stepD P ops o st = some st') (k : Sym → Option Tree) : opC P orc inl ops o st k = k st' := by
 unfold stepD at h
 unfold opC
 split at h
 ·cases h
 ·rename_i hg
  try rw [hg]
  cases h; rfl
 ·rename_i hg
  try rw [hg]
  try simp only
  split at h
  ·cases h
  ·rename_i hc
   try rw [hc]
   try simp only
   unfold storeC
   split at h
   ·rename_i ty p x hop
    try rw [hop]
    try simp only
    split at h
    ·cases h
    ·cases h
    ·rename_i h1 h2
     obtain ⟨bo, hb, h⟩ := Option.bind_eq_some_iff.1 h
     obtain ⟨y, hy, h⟩ := Option.bind_eq_some_iff.1 h
     obtain ⟨n, hn, h⟩ := Option.bind_eq_some_iff.1 h
     obtain ⟨blk, hbl, h⟩ := Option.bind_eq_some_iff.1 h
     split at h
     ·rename_i hk
      obtain ⟨l, hl, h⟩ := Option.map_eq_some_iff.1 h
      subst h
      first
       | (simp only [hb, hy, hn, hbl, Option.bind_some, if_pos hk, hl]; done)
       | (split
          ·rename_i e; exact absurd e (h1 _ _ _ _)
          ·rename_i e; exact absurd e (h2 _ _ _ _)
          ·simp only [hb, hy, hn, hbl, Option.bind_some, if_pos hk, hl])
     ·cases h
   ·cases h
  ·cases h
  ·cases h
  ·rename_i h1 h2 h3 h5
   obtain ⟨v, hv, rfl⟩ := Option.map_eq_some_iff.1 h
   first
    | (unfold quietC; rw [hv]; done)
    | (split
       ·rename_i e; exact absurd e h1
       ·rename_i e; exact absurd e h2
       ·rename_i e; exact absurd e h3
       ·rename_i e; exact absurd e h5
       ·unfold quietC; rw [hv])
noncomputable def onlyS (s : Sym) (t : Tree) (s' : Sym) : Option Tree := open Classical in if s' = s then some t else none
theorem onlyS_self (s : Sym) (t : Tree) : onlyS s t s = some t := by unfold onlyS; rw [if_pos rfl]
theorem onlyS_inv {s s' : Sym} {t t' : Tree} (h : onlyS s t s' = some t') : s' = s ∧ t' = t := by
 unfold onlyS at h
 split at h
 ·rename_i e; cases h; exact ⟨e, rfl⟩
 ·cases h
theorem tblAt_mem {tb : Tbl} {key : Nat} {m : Array Bool} {st : Sym} (h : tblAt tb key = some (m, st)) : (key, m, st) ∈ tb := by
 unfold tblAt at h
 obtain ⟨x, hx, e⟩ := Option.map_eq_some_iff.1 h
 have h1 := List.find?_some hx
 have h2 := List.mem_of_find?_eq_some hx
 obtain ⟨x1, x2⟩ := x
 have h3 : x1 = key := Nat.eq_of_beq_eq_true h1
 have h4 : x2 = (m, st) := e
 subst h3 h4
 exact h2
theorem confOK_at {fin : Nat} {tb : Tbl} (hc : confOK P ops fin tb = true) {key : Nat} {m : Array Bool} {st : Sym} (h : tblAt tb key = some (m, st)) :
 (Region.ready .any ops m = [] → key = fin) ∧ ∀ i ∈ Region.ready .any ops m, doneN m < ops.size ∧ doneN (m.setIfInBounds i true) = doneN m + 1 ∧ ∃ o s, ops[i]? = some o ∧ stepD P ops o st = some s ∧ tblAt tb (key + 2 ^ i) = some (m.setIfInBounds i true, s) := by
 unfold confOK at hc
 have h1 := List.all_eq_true.1 hc _ (tblAt_mem h)
 simp only [Bool.and_eq_true, List.all_eq_true] at h1
 obtain ⟨h1, h2⟩ := h1
 refine ⟨fun e => by rw [e] at h1; exact Nat.eq_of_beq_eq_true (by simpa using h1), fun i hi => ?_⟩
 obtain ⟨⟨h3, h4⟩, h5⟩ := h2 i hi
 refine ⟨by simpa using h3, by simpa using h4, ?_⟩
 split at h5
 ·rename_i o ho
  split at h5
  ·rename_i s m' s' hs hs'
   simp only [Bool.and_eq_true] at h5
   rw [← eqSym_eq h5.2, eqM_eq h5.1] at hs'
   exact ⟨o, s, ho, hs, hs'⟩
  ·cases h5
 ·cases h5
theorem confC_ok (hI : InlOK P inl) {B : Nat} {tb : Tbl} {fin : Nat} {mf : Array Bool} {sf : Sym} {k : Sym → Option Tree} {t : Tree} (hc : confOK P ops fin tb = true) (hf : tblAt tb fin = some (mf, sf)) (hk : k sf = some t) :
 ∀ (n key : Nat) (listed : Array Bool) (st : Sym) (L : List (List Value → Base → Prop)) (env : List Value) (gs tk : List Nat) (β : Base) (a : Act) (w : World), tblAt tb key = some (listed, st) → n + doneN listed = ops.size → Den w0 M β st env gs a w → L.length = st.dep → TWb P w0 R t L env gs β →
 Goes P w0 M R L k env gs w (fun a' w' => Q .normal a' w') → AnyK P ops Q B (fun _ => true) (fun _ => false) n listed tk a w := by
 have stop : ∀ (key : Nat) (listed : Array Bool) (st : Sym) (L : List (List Value → Base → Prop)) (env : List Value) (gs : List Nat) (β : Base) (a : Act) (w : World), tblAt tb key = some (listed, st) → Den w0 M β st env gs a w → L.length = st.dep → TWb P w0 R t L env gs β →
  Goes P w0 M R L k env gs w (fun a' w' => Q .normal a' w') → Region.ready .any ops listed = [] → ∀ W, Fut w W → Q .normal a W := by
  intro key listed st L env gs β a w h1 h hL hT hK hr W hW
  have e := (confOK_at hc h1).1 hr
  subst e
  rw [hf] at h1
  cases h1
  exact hK sf t L env gs β a W hW.size hk (List.prefix_refl _) hL (List.prefix_refl _) (List.prefix_refl _) (h.fut hW) hT
 intro n
 induction n with
 | zero =>
  intro key listed st L env gs tk β a w h1 hn h hL hT hK
  have hr : Region.ready .any ops listed = [] := by
   cases he : Region.ready .any ops listed with
   | nil => rfl
   | cons i r =>
    have := ((confOK_at hc h1).2 i (by rw [he]; exact List.mem_cons_self)).1
    omega
  exact ⟨hr, stop key listed st L env gs β a w h1 h hL hT hK hr⟩
 | succ n ih =>
  intro key listed st L env gs tk β a w h1 hn h hL hT hK
  refine ⟨stop key listed st L env gs β a w h1 h hL hT hK, fun i hi W hW => ⟨fun ha => (by cases ha), fun _ => ?_⟩⟩
  obtain ⟨h2, h3, o, s, ho, hs, hs'⟩ := (confOK_at hc h1).2 i hi
  have hu : opC P { ans := [], lps := [] } inl ops o st (onlyS s t) = some t := by
   rw [stepD_opC P _ inl ops hs]
   exact onlyS_self s t
  have := opC_ok (Q := Q) hI hu (h.fut hW) hL hT (K := fun a' w' => (true = false → Fut W w') ∧ W.heap.size ≤ w'.heap.size ∧ ∃ tk', (∀ x ∈ tk', W.heap.size ≤ x ∧ x < w'.heap.size) ∧ AnyK P ops Q B (fun _ => true) (fun _ => false) n (listed.setIfInBounds i true) (tk' ++ tk) a' w') fun st' t' L' env' gs' β' a' w' hsz q1 hl hd q3 q4 q5 q6 => by
   obtain ⟨he, ht⟩ := onlyS_inv q1
   subst he
   subst ht
   exact ⟨fun hh => (by cases hh), hsz, [], by simp, ih _ _ _ L' env' gs' tk β' a' w' hs' (by omega) q5 hd q6 (hK.later hl q3 q4 (Nat.le_trans hW.size hsz))⟩
  unfold wpOp
  simp only [ho]
  split
  ·rename_i hw; exact .inl (this.1 hw)
  ·rename_i hw; exact this.2 (by simpa using hw)
def PanOK (Q : Exit → Act → World → Prop) : Prop := ∀ c a (d : Option Tmp) v w, Q (.panic c) (a.put d v) w ↔ Q (.panic c) a w

def KOK (P : Program) (w0 : World) (M : Marks) (top : Bool) (R : Ending → World → Prop) (k : Exit → Sym → Option Tree) (Q : Exit → Act → World → Prop) (L : List (List Value → Base → Prop)) (env : List Value) (gs : List Nat) (B0 : Nat) : Prop :=
 ∀ M', (M' = M ∨ (top = true ∧ M'.Good)) → ∀ e st' t', k e st' = some t' → ∀ L' env' gs' β a' w', L <+: L' → env <+: env' → gs <+: gs' → L'.length = st'.dep → B0 ≤ w'.heap.size → Den w0 M' β st' env' gs' a' w' → TWb P w0 R t' L' env' gs' β → Q e a' w'

theorem KOK.weak {top : Bool} {k : Exit → Sym → Option Tree} {L' : List (List Value → Base → Prop)} {B0 : Nat} (h : KOK P w0 M top R k Q L env gs B0) (h1 : L <+: L') (h2 : env <+: env') (h3 : gs <+: gs') : KOK P w0 M top R k Q L' env' gs' B0 :=
 fun M' hM e st' t' hk L2 e2 g2 b2 a' w' q1 q2 q3 => h M' hM e st' t' hk L2 e2 g2 b2 a' w' (h1.trans q1) (h2.trans q2) (h3.trans q3)
theorem KOK.next {top : Bool} {k : Exit → Sym → Option Tree} {B0 : Nat} {M' : Marks} (h : KOK P w0 M top R k Q L env gs B0) (hM : M' = M ∨ (top = true ∧ M'.Good)) : KOK P w0 M' top R k Q L env gs B0 :=
 fun M2 hM2 => h M2 (by
  rcases hM2 with rfl | hM2
  ·exact hM
  ·exact .inr hM2)

theorem exists_least {p : Nat → Prop} : ∀ n, p n → ∃ m, p m ∧ ∀ j, p j → m ≤ j := by
 intro n
 induction n using Nat.strongRecOn with
 | _ n ih =>
  intro hn
  by_cases h : ∃ m, m < n ∧ p m
  ·obtain ⟨m, hm, hp⟩ := h
   exact ih m hm hp
  ·exact ⟨n, hn, fun j hj => by
    rcases Nat.lt_or_ge j n with hl | hl
    ·exact absurd ⟨j, hl, hj⟩ h
    ·exact hl⟩

theorem wp_loop_ghost {r : Option Nat} {n : Nat} {σ : Type} {c : Code} (J : σ → Act → World → Prop) (μ : σ → Nat) (s0 : σ) (h0 : J s0 a w)
 (round : ∀ s a w, J s a w → c.wpIn (FR r) n P (Exit.then (fun a' w' => ∃ s', J s' a' w' ∧ μ s' < μ s) Q) a w) : (Code.loop c).wpIn (FR r) n P Q a w := by
 have ex : ∀ a w, (∃ s, J s a w) → ∃ m, (∃ s, J s a w ∧ μ s = m) ∧ ∀ j, (∃ s, J s a w ∧ μ s = j) → m ≤ j := fun a w ⟨s, hs⟩ => exists_least (p := fun m => ∃ s, J s a w ∧ μ s = m) (μ s) ⟨s, hs, rfl⟩
 let M : Act → World → Nat := fun a w => @dite _ (∃ s, J s a w) (Classical.propDecidable _) (fun h => Classical.choose (ex a w h)) (fun _ => 0)
 have hM : ∀ a w (h : ∃ s, J s a w), (∃ s, J s a w ∧ μ s = M a w) ∧ ∀ j, (∃ s, J s a w ∧ μ s = j) → M a w ≤ j := by
  intro a w h
  have e : M a w = Classical.choose (ex a w h) := by simp only [M, dif_pos h]
  rw [e]; exact Classical.choose_spec (ex a w h)
 refine wpIn_loop (fun a w => ∃ s, J s a w) M ⟨s0, h0⟩ fun a w h => ?_
 obtain ⟨⟨s, hs, hm⟩, _⟩ := hM a w h
 refine wpIn_mono (round s a w hs) fun e a' w' he => ?_
 cases e with
 | normal =>
  obtain ⟨s', hs', hlt⟩ := he
  refine ⟨⟨s', hs'⟩, ?_⟩
  have := (hM a' w' ⟨s', hs'⟩).2 (μ s') ⟨s', hs', rfl⟩
  show M a' w' < M a w
  omega
 | _ => exact he

theorem setI_other {st : Sym} {k : Nat} {i : Item} : (∀ t, isSlot [i] t = false → (setI st k i).slots[t]? = st.slots[t]?) ∧ (∀ b, isBlk [i] b = false → (setI st k i).blocks[b]? = st.blocks[b]?) ∧ (setI st k i).blocks.length = st.blocks.length ∧ (setI st k i).n = st.n ∧ (setI st k i).dep = st.dep := by
 cases i with
 | slot t pcs =>
  refine ⟨fun u hu => ?_, fun _ _ => rfl, rfl, rfl, rfl⟩
  simp only [isSlot, List.any_cons, List.any_nil, Bool.or_false, beq_eq_false_iff_ne] at hu
  simp only [setI]
  rw [List.getElem?_set, if_neg hu]
 | blk b pcs =>
  refine ⟨fun _ _ => rfl, fun c hc => ?_, by simp [setI], rfl, rfl⟩
  simp only [isBlk, List.any_cons, List.any_nil, Bool.or_false, beq_eq_false_iff_ne] at hc
  simp only [setI]
  rw [List.getElem?_modify]
  cases st.blocks[c]? <;> simp [hc]
 | row t T sz =>
  refine ⟨fun u hu => ?_, fun _ _ => rfl, rfl, rfl, rfl⟩
  simp only [isSlot, List.any_cons, List.any_nil, Bool.or_false, beq_eq_false_iff_ne] at hu
  simp only [setI]
  rw [List.getElem?_set, if_neg hu]
 | cont t T sz => exact ⟨fun _ _ => rfl, fun _ _ => rfl, rfl, rfl, rfl⟩
 | stay kv kc T sz => exact ⟨fun _ _ => rfl, fun _ _ => rfl, rfl, rfl, rfl⟩
theorem setIs_other : ∀ {items : List Item} {st : Sym} {k : Nat}, (∀ t, isSlot items t = false → (setIs st k items).slots[t]? = st.slots[t]?) ∧ (∀ b, isBlk items b = false → (setIs st k items).blocks[b]? = st.blocks[b]?) ∧ (setIs st k items).blocks.length = st.blocks.length ∧ (setIs st k items).n = st.n ∧ (setIs st k items).dep = st.dep
 | [], _, _ => ⟨fun _ _ => rfl, fun _ _ => rfl, rfl, rfl, rfl⟩
 | i :: r, st, k => by
  obtain ⟨h1, h2, h3, h4, h5⟩ := setIs_other (items := r) (st := setI st k i) (k := k + i.pcs.length)
  obtain ⟨g1, g2, g3, g4, g5⟩ := setI_other (st := st) (k := k) (i := i)
  refine ⟨fun t ht => ?_, fun b hb => ?_, h3.trans g3, h4.trans g4, h5.trans g5⟩
  ·simp only [isSlot, List.any_cons, Bool.or_eq_false_iff] at ht
   exact (h1 t ht.2).trans (g1 t (by simpa [isSlot] using ht.1))
  ·simp only [isBlk, List.any_cons, Bool.or_eq_false_iff] at hb
   exact (h2 b hb.2).trans (g2 b (by simpa [isBlk] using hb.1))
theorem kill_slot : ∀ (kill : List Tmp) (s : List SV) (t : Nat) (x : SV), (kill.foldl (fun s t => s.set t .any) s)[t]? = some x → x ≠ .any → s[t]? = some x
 | [], s, t, x, h, _ => h
 | u :: r, s, t, x, h, hx => by
  have := kill_slot r (s.set u .any) t x h hx
  rw [List.getElem?_set] at this
  split at this
  ·split at this
   ·simp only [Option.some.injEq] at this; exact absurd this.symm hx
   ·cases this
  ·exact this

theorem Den.marks {M' : Marks} {ds : List Deferred} (h : Den w0 M β st env gs a w) (hm : DfOK w0 M' β ds w) : Den w0 M' β st env gs { a with defers := ds } w := ⟨h.n, h.gl, h.sl, h.slots, h.mem, h.bok, hm, h.rws, h.bas⟩
theorem Den.put_mark (h : Den w0 M β st env gs a w) {D : Nat} {o : Obj} (hm : (D, o) ∈ M.ks) (o' : Obj) {M' : Marks} {ds : List Deferred} (hM : ∀ m ∈ M'.ks, (m ∈ M.ks ∧ m.1 ≠ D) ∨ (m = (D, o') ∧ o'.isCells = false)) (hds : ds = M'.ds) :
 Den w0 M' β st env gs { a with defers := ds } (w.putObj D o') := by
 obtain ⟨q1, q2, q3, q4⟩ := h.df.ks _ hm
 have hlt : D < w.heap.size := (Array.getElem?_eq_some_iff.1 q2).1
 have hg := grownBy_putObj' w D o'
 have ne : ∀ {b : Nat} {xs : List Value} {T : TypeId}, Own w b xs T → b ≠ D := fun hO e => by
  subst e; unfold Own at hO; rw [hO] at q2; injection q2 with q2; rw [← q2] at q3; cases q3
 refine ⟨h.n, h.gl, h.sl, h.slots, ⟨h.mem.below.grown hg h.mem.below.size (fun k e => by cases e; exact q1), fun x hx => ⟨(h.mem.own x hx).1, ?_⟩, h.mem.apart⟩, h.bok, ⟨hds, fun m hm' => ?_⟩, ⟨fun r hr => ?_, h.rws.gs, h.rws.pw⟩, ⟨⟨Nat.le_trans h.bas.up.size hg.size, fun k hk hx => ?_⟩, h.bas.own⟩⟩
 ·have hO := (h.mem.own x hx).2
  have := ne hO
  unfold Own at hO ⊢
  rw [World.putObj_heap_other this]; exact hO
 ·rcases hM m hm' with ⟨h1, h2⟩ | ⟨rfl, h2⟩
  ·obtain ⟨a1, a2, a3, a4⟩ := h.df.ks m h1
   exact ⟨a1, (World.putObj_heap_other h2).trans a2, a3, a4⟩
  ·exact ⟨q1, World.putObj_heap_same hlt, h2, q4⟩
 ·obtain ⟨v, cs, m, e1, e2, e3, e4⟩ := h.rws.own r hr
  refine ⟨v, cs, m, e1, e2, e3, e4.kept hg ?_⟩
  rcases e4.2 with ⟨rfl, _⟩ | ⟨g, cap, cur, rfl, _, hgg, _⟩
  ·exact .inl rfl
  ·refine .inr fun e => ?_
   cases e
   rw [hgg] at q2; injection q2 with q2; rw [← q2] at q3; cases q3
 ·rw [World.putObj_heap_other (fun e => hx (by subst e; exact q4 hk))]
  exact h.bas.up.block k hk hx

theorem resS_ok {l : List Leaf} (hl : fn.results.toList.mapM (resS P st) = some l) (h : Den w0 M β st env gs a w) : (results fn a.tmps).run P w = .ok ((retV l).den env gs) w := by
 have one : ∀ (rv : ResultVar) (y : Leaf), resS P st rv = some y →
  ((match rv with | .tmp t => pure (a.tmps.getD t undef) | .cell p t => do loadVar t (← asAddr (a.tmps.getD p undef))) : Sem Value).run P w = .ok (y.den env gs) w := by
  intro rv y hy
  cases rv with
  | tmp t =>
   have := (leafOf_ok h hy).1
   have e : a.eval (.tmp t) = a.tmps.getD t undef := rfl
   simp only [Sem.run_pure]
   rw [← e, this]
  | cell p ty =>
   simp only [resS] at hy
   obtain ⟨bo, hbo, hy⟩ := Option.bind_eq_some_iff.1 hy
   obtain ⟨blk, hb, hy⟩ := Option.bind_eq_some_iff.1 hy
   obtain ⟨v, hv, hy⟩ := Option.bind_eq_some_iff.1 hy
   have hv' : v = .leaf y := by
    cases v <;> simp at hy
    rw [hy]
   subst hv'
   obtain ⟨ep, _⟩ := ptrOf_ok h hbo
   have hO := h.own hb (Fut.refl w)
   have e : a.eval (.tmp p) = a.tmps.getD p undef := rfl
   rw [e] at ep
   -- as a load out of the block
   have hx : opd st (.tmp p) = .leaf (.atom (.ptr bo.1 bo.2)) := by
    unfold ptrOf at hbo
    split at hbo
    ·rename_i b o' hx; cases hbo; exact hx
    ·cases hbo
   have hy := yf_load h (o := ⟨none, .load ty (.tmp p), 0, "", #[], none⟩) rfl hx hb hv w (Fut.refl w)
   unfold execOp at hy
   simp only [e, ep, Instr.loadAt, Instr.sureAddr, Sem.run_bind, Sem.run_pure, Result.andThen_ok] at hy
   simp only [ep, asAddr, Sem.run_bind, Sem.run_pure, Result.andThen_ok]
   generalize hh : (loadVar ty _).run P w = q at hy ⊢
   cases q with
   | ok v' w' => simp only [Result.andThen_ok, Result.ok.injEq, Next.value.injEq] at hy; rw [hy.1, hy.2]; rfl
   | halt x w' => simp at hy
 have hm : ∀ (rs : List ResultVar) (l : List Leaf), rs.mapM (resS P st) = some l →
  (rs.mapM (fun rv => ((match rv with | .tmp t => pure (a.tmps.getD t undef) | .cell p t => do loadVar t (← asAddr (a.tmps.getD p undef))) : Sem Value))).run P w = .ok (l.map (Leaf.den env gs)) w := by
  intro rs
  induction rs with
  | nil => intro l hl; simp at hl; subst hl; simp
  | cons x rs ih =>
   intro l hl
   simp only [List.mapM_cons, Option.bind_eq_bind, Option.pure_def, Option.bind_eq_some_iff] at hl
   obtain ⟨c, hc, r, hr, he⟩ := hl
   cases he
   simp only [List.mapM_cons, Sem.run_bind, one x c hc, Result.andThen_ok, ih r hr, Sem.run_pure, List.map_cons]
 unfold results
 rw [Array.mapM_eq_mapM_toList]
 have key := hm _ l hl
 simp only [Sem.run_bind, Sem.run_map]
 erw [key]
 simp only [Result.andThen_ok, Sem.run_pure]
 congr 1
 match l with
 | [] => simp [retV, SV.den]
 | [x] => simp [retV, SV.den]
 | x :: y :: r => simp [retV, SV.den]
theorem resS_leaf (h : Den w0 M β st env gs a w) : ∀ (rs : List ResultVar) (l : List Leaf), rs.mapM (resS P st) = some l → ∀ x ∈ l, x.OK env gs := by
 intro rs
 induction rs with
 | nil => intro l hl; simp at hl; subst hl; simp
 | cons rv rs ih =>
  intro l hl
  simp only [List.mapM_cons, Option.bind_eq_bind, Option.pure_def, Option.bind_eq_some_iff] at hl
  obtain ⟨c, hc, r, hr, he⟩ := hl
  cases he
  intro x hx
  rcases List.mem_cons.1 hx with rfl | hx
  ·cases rv with
   | tmp t => exact (leafOf_ok h hc).2
   | cell p ty =>
    simp only [resS] at hc
    obtain ⟨bo, hbo, hc⟩ := Option.bind_eq_some_iff.1 hc
    obtain ⟨blk, hb, hc⟩ := Option.bind_eq_some_iff.1 hc
    obtain ⟨v, hv, hc⟩ := Option.bind_eq_some_iff.1 hc
    obtain ⟨_, ok, _⟩ := partS_ok hv (h.segs hb)
    cases v <;> simp at hc
    subst hc
    exact ok
  ·exact ih r hr x hx
theorem retV_ok {l : List Leaf} (h : ∀ x ∈ l, x.OK env gs) : (retV l).OK env gs := by
 match l with
 | [] => exact h
 | [x] => exact h x (by simp)
 | x :: y :: r => exact h
theorem leaves_ok {l : List Leaf} {b : Bool} (hl : fn.results.toList.mapM (resS P st) = some l) (hR : ∀ w, Mm w0 w env gs (blOf st b) → Upto β w → R (.returned ((retV l).den env gs)) w) : ∀ (ds : List Deferred) (M : Marks) (w : World), ds = M.ds → M.Good → Den w0 M β st env gs { a with defers := ds } w →
 LeavesInM Fence.wide 2 P fn a.tmps R ds .returning w
 | [], M, w, _, _, h => by
  have h1 := resS_ok hl h
  exact ⟨_, h1, hR w (blOf_mem h b) h.bas.up⟩
 | d :: ds, M, w, e, hG, h => by
  obtain ⟨D, rfl, hm⟩ := hG.ks d (by rw [← e]; simp)
  refine ⟨by simp, .inl ⟨D, w.putObj D (.deferred none), rfl, run_takeDeferred (h.df.ks _ hm).2.1, ?_⟩⟩
  have hpw := hG.pw
  rw [← e] at hpw
  obtain ⟨p1, p2⟩ := List.pairwise_cons.1 hpw
  refine leaves_ok hl hR ds ⟨ds, M.ks.filter fun m => m.1 != D⟩ _ rfl ⟨fun d' hd' => ?_, p2⟩ (Den.put_mark (a := { a with defers := _ }) h hm _ (fun m hm' => ?_) rfl)
  ·obtain ⟨D', rfl, hm'⟩ := hG.ks d' (by rw [← e]; exact List.mem_cons_of_mem _ hd')
   refine ⟨D', rfl, List.mem_filter.2 ⟨hm', ?_⟩⟩
   have := p1 _ hd'
   simp only [bne_iff_ne, ne_eq]
   intro e2
   subst e2
   exact this rfl
  ·obtain ⟨h1, h2⟩ := List.mem_filter.1 hm'
   exact .inl ⟨h1, by simpa using h2⟩
theorem retC_ok {t : Tree} (hq : retC P orc fn st = some t) (h : Den w0 M β st env gs a w) (hG : M.Good) (hT : TWb P w0 R t L env gs β) : LeavesInM Fence.wide 2 P fn a.tmps R a.defers .returning w := by
 unfold retC at hq
 obtain ⟨l, hl, rfl⟩ := Option.map_eq_some_iff.1 hq
 cases ho : orc.own <;> (rw [ho] at hT; exact leaves_ok hl (fun w hm hu => hT w hm hu) _ M w h.df.ds hG h)

def finQ (G : Act → World → Prop) : Exit → Act → World → Prop
 | .normal, a, w | .ret, a, w => G a w
 | _, _, _ => False
theorem finQ_pan (G : Act → World → Prop) : PanOK (finQ G) := fun c a d v w => Iff.rfl
theorem finQ_out (G : Act → World → Prop) : ∀ a w, ¬ finQ G .outgrown a w := fun _ _ h => h

def CompOK (P : Program) (inl : Inl) (w0 : World) (R : Ending → World → Prop) (B0 : Nat) (c : Code) : Prop := ∀ (orc : Orc), goodC P orc.ords c = true → ∀ (r : Option Nat) (n : Nat), (r = none ∨ noDef c = true) → ∀ (M : Marks), (orc.rng.isSome = true → r = none ∧ n = 2 ∧ M.Good) → (∀ x, orc.rng = some x → IsBack P x.1) →
 ∀ (cur : Nat) (st : Sym) (k : Exit → Sym → Option Tree) (t : Tree), compC P inl c orc cur st k = some t → ∀ (Q : Exit → Act → World → Prop), PanOK Q → (∀ a w, ¬ Q .outgrown a w) →
 ∀ (L : List (List Value → Base → Prop)) (env : List Value) (gs : List Nat), KOK P w0 M orc.rng.isSome R k Q L env gs B0 → L.length = st.dep → ∀ (β : Base) (a : Act) (w : World), B0 ≤ w.heap.size → Den w0 M β st env gs a w → TWb P w0 R t L env gs β → c.wpIn (FR r) n P Q a w
def RestOK (P : Program) (inl : Inl) (w0 : World) (R : Ending → World → Prop) (B0 : Nat) : Code → Prop
 | .seq (.label _) y => CompOK P inl w0 R B0 y
 | _ => True
theorem RestOK.seq {B0 : Nat} (x : Code) {y : Code} (h : CompOK P inl w0 R B0 y) : RestOK P inl w0 R B0 (.seq x y) := by
 cases x <;> first | exact h | trivial
theorem labelOf_ok {c : Code} {l : Nat} (h : labelOf c = some l) : ∃ y, c = .seq (.label l) y := by
 unfold labelOf at h
 split at h
 ·cases h; exact ⟨_, rfl⟩
 ·cases h
theorem wp_scope_ghost {σ : Type} {y : Code} {n l : Nat} (J : σ → Act → World → Prop) (μ : σ → Nat) (s0 : σ) (h0 : J s0 a w)
 (round : ∀ s a w, J s a w → y.wpIn (FR none) n P (Exit.jump l (fun a' w' => ∃ s', J s' a' w' ∧ μ s' < μ s) Q) a w) : (Code.scope (.seq (.label l) y)).wpIn (FR none) n P Q a w := by
 have ex : ∀ a w, (∃ s, J s a w) → ∃ m, (∃ s, J s a w ∧ μ s = m) ∧ ∀ j, (∃ s, J s a w ∧ μ s = j) → m ≤ j := fun a w ⟨s, hs⟩ => exists_least (p := fun m => ∃ s, J s a w ∧ μ s = m) (μ s) ⟨s, hs, rfl⟩
 let M : Act → World → Nat := fun a w => @dite _ (∃ s, J s a w) (Classical.propDecidable _) (fun h => Classical.choose (ex a w h)) (fun _ => 0)
 have hM : ∀ a w (h : ∃ s, J s a w), (∃ s, J s a w ∧ μ s = M a w) ∧ ∀ j, (∃ s, J s a w ∧ μ s = j) → M a w ≤ j := by
  intro a w h
  have e : M a w = Classical.choose (ex a w h) := by simp only [M, dif_pos h]
  rw [e]; exact Classical.choose_spec (ex a w h)
 have toIn : ∀ {c : Code} {Q : Exit → Act → World → Prop} {a : Act} {w : World}, c.wpIn (FR none) n P Q a w → c.wp P Q a w := fun h => wpIn_wide.1 h
 have pass : ∀ a w, (∃ s, J s a w) → y.wpIn (FR none) n P (Exit.jump l (fun a' w' => (∃ s, J s a' w') ∧ M a' w' < M a w) Q) a w := fun a w h => by
  obtain ⟨⟨s, hs, hm⟩, _⟩ := hM a w h
  refine wpIn_mono (round s a w hs) fun e a' w' he => ?_
  cases e with
  | goto l' =>
   obtain ⟨e1, s', hs', hlt⟩ := he
   have := (hM a' w' ⟨s', hs'⟩).2 (μ s') ⟨s', hs', rfl⟩
   exact ⟨e1, ⟨s', hs'⟩, by omega⟩
  | _ => exact he
 refine wpIn_wide.2 (wp_scope_jumps (rest := .seq .skip y) l (fun a w => ∃ s, J s a w) M (by simp [findLabel]) (toIn (wpIn_seq (wpIn_label ?_))) fun a w h => toIn (wpIn_seq (wpIn_skip (pass a w h))))
 refine wpIn_mono (pass a w ⟨s0, h0⟩) fun e a' w' he => ?_
 cases e with
 | goto l' => exact ⟨he.1, he.2.1⟩
 | _ => exact he
theorem compC_both (hI : InlOK P inl) {B0 : Nat} : ∀ (c : Code), CompOK P inl w0 R B0 c ∧ RestOK P inl w0 R B0 c := by
 intro c
 induction c with
 | skip =>
  refine ⟨?_, trivial⟩
  intro orc _ r n hnd M hM hBk cur st k t hq Q hpan hout L env gs hk hL β a w hB hd hT
  exact wpIn_skip (hk M (.inl rfl) _ _ _ hq L env gs β a w (List.prefix_refl _) (List.prefix_refl _) (List.prefix_refl _) hL hB hd hT)
 | label l =>
  refine ⟨?_, trivial⟩
  intro orc _ r n hnd M hM hBk cur st k t hq Q hpan hout L env gs hk hL β a w hB hd hT
  exact wpIn_label (hk M (.inl rfl) _ _ _ hq L env gs β a w (List.prefix_refl _) (List.prefix_refl _) (List.prefix_refl _) hL hB hd hT)
 | region id ops draw =>
  refine ⟨?_, trivial⟩
  intro orc hgd r n hnd M hM hBk cur st k t hq Q hpan hout L env gs hk hL β a w hB hd hT
  simp only [compC] at hq
  cases draw with
  | false =>
   simp only [Bool.false_eq_true, if_false] at hq
   exact regionR hout hnd (seqC_ok hI ops.toList β st L env gs a w _ t hq hd hL hT fun st' t' L' env' gs' β' a' w' hs h1 hl hd h3 h4 h5 h6 => hk M (.inl rfl) _ _ _ h1 L' env' gs' β' a' w' hl h3 h4 hd (Nat.le_trans hB hs) h5 h6)
  | true =>
   simp only [if_true, drawC] at hq
   simp only [goodC, Bool.not_true, Bool.false_or] at hgd
   split at hq
   ·split at hq
    ·rename_i hc
     simp only [Bool.and_eq_true] at hc
     refine region_anyR hout hnd hc.1 (AnyK.any (B := w.heap.size) (fin := fun _ => true) (al := fun _ => false) _ _ [] _ w.drew (Nat.le_refl _) (by simp) ?_)
     split at hq
     ·rename_i sf hcf
      unfold confFin at hcf
      obtain ⟨x, hx, hcf⟩ := Option.bind_eq_some_iff.1 hcf
      split at hcf
      ·rename_i hcc
       simp only [Bool.and_eq_true, beq_iff_eq] at hcc
       obtain ⟨⟨mf, sf'⟩, hcf', e⟩ := Option.map_eq_some_iff.1 hcf
       have e' : sf' = sf := e
       subst e'
       exact confC_ok hI hcc.1 hcf' hq _ 0 _ st L env gs [] β a w.drew (by unfold tblAt; rw [List.find?_cons_of_pos (by rfl)]; rfl) (by rw [hcc.2]; rfl) hd.drew hL hT fun st' t' L' env' gs' β' a' w' hs h1 hl hd h3 h4 h5 h6 => hk M (.inl rfl) _ _ _ h1 L' env' gs' β' a' w' hl h3 h4 hd (Nat.le_trans hB hs) h5 h6
      ·cases hcf
     ·exact allC_ok hI _ _ β st L env gs [] a w.drew _ t hq hd.drew hL hT fun st' t' L' env' gs' β' a' w' hs h1 hl hd h3 h4 h5 h6 => hk M (.inl rfl) _ _ _ h1 L' env' gs' β' a' w' hl h3 h4 hd (Nat.le_trans hB hs) h5 h6
    ·cases hq
   split at hq
   ·rename_i ord hord
    rw [hord] at hgd
    simp only [Bool.and_eq_true] at hgd
    obtain ⟨c1, c2, c3⟩ := hgd
    refine region_anyR hout hnd c1 (any_k _ c2 c3 (fun c a d v w => (hpan c a d v w).1) (fun c a d v w => (hpan c a d v w).2) ?_)
    exact ordC_ok hI hd.mem.below.size _ β st env gs [] a w.drew _ t hq hd.drew hL hT (fun g hg => .inl (hd.gs_lt g hg).2) (fun r hr v g hv hg => .inl ((hd.rws.own r hr).lt hv hg).2) (fun g q1 _ q3 => by have := hd.bas.up.size; omega) fun st' t' L' env' gs' β' a' w' hs h1 hl hd h3 h4 h5 h6 => hk M (.inl rfl) _ _ _ h1 L' env' gs' β' a' w' hl h3 h4 hd (Nat.le_trans hB hs) h5 h6
   split at hq
   ·rename_i hc
    simp only [Bool.and_eq_true] at hc
    obtain ⟨⟨c1, c2⟩, c3⟩ := hc
    refine region_anyR hout hnd c1 (any_k _ c2 c3 (fun c a d v w => (hpan c a d v w).1) (fun c a d v w => (hpan c a d v w).2) ?_)
    exact ordC_ok hI hd.mem.below.size _ β st env gs [] a w.drew _ t hq hd.drew hL hT (fun g hg => .inl (hd.gs_lt g hg).2) (fun r hr v g hv hg => .inl ((hd.rws.own r hr).lt hv hg).2) (fun g q1 _ q3 => by have := hd.bas.up.size; omega) fun st' t' L' env' gs' β' a' w' hs h1 hl hd h3 h4 h5 h6 => hk M (.inl rfl) _ _ _ h1 L' env' gs' β' a' w' hl h3 h4 hd (Nat.le_trans hB hs) h5 h6
   ·cases hq
 | seq x y ihx ihy =>
  replace ihx := ihx.1
  replace ihy := ihy.1
  refine ⟨?_, RestOK.seq x ihy⟩
  intro orc hgd r n hnd M hM hBk cur st k t hq Q hpan hout L env gs hk hL β a w hB hd hT
  simp only [goodC, Bool.and_eq_true] at hgd
  have nd2 : (r = none ∨ noDef x = true) ∧ (r = none ∨ noDef y = true) := by
   rcases hnd with hnd | hnd
   ·exact ⟨.inl hnd, .inl hnd⟩
   ·simp only [noDef, Bool.and_eq_true] at hnd; exact ⟨.inr hnd.1, .inr hnd.2⟩
  refine wpIn_seq (ihx orc hgd.1 r n nd2.1 M hM hBk cur st _ t hq (Exit.then (y.wpIn (FR r) n P Q) Q) (fun c a d v w => hpan c a d v w) hout L env gs ?_ hL β a w hB hd hT)
  intro M' hM' e st' t' he L' env' gs' β' a' w' h1 h2 h3 h4 hB' h5 h6
  cases e with
  | normal => exact ihy orc hgd.2 r n nd2.2 M' (fun ht => ⟨(hM ht).1, (hM ht).2.1, by
   rcases hM' with rfl | hM'
   ·exact (hM ht).2.2
   ·exact hM'.2⟩) hBk cur st' k t' he Q hpan hout L' env' gs' ((hk.next hM').weak h1 h2 h3) h4 β' a' w' hB' h5 h6
  | _ => exact hk M' hM' _ _ _ he L' env' gs' β' a' w' h1 h2 h3 h4 hB' h5 h6
 | cond c x y ihx ihy =>
  replace ihx := ihx.1
  replace ihy := ihy.1
  refine ⟨?_, trivial⟩
  intro orc hgd r n hnd M hM hBk cur st k t hq Q hpan hout L env gs hk hL β a w hB hd hT
  simp only [goodC, Bool.and_eq_true] at hgd
  have nd2 : (r = none ∨ noDef x = true) ∧ (r = none ∨ noDef y = true) := by
   rcases hnd with hnd | hnd
   ·exact ⟨.inl hnd, .inl hnd⟩
   ·simp only [noDef, Bool.and_eq_true] at hnd; exact ⟨.inr hnd.1, .inr hnd.2⟩
  simp only [compC] at hq
  split at hq
  ·rename_i b hc
   have ec := (hd.opd hc (by simp)).1
   simp only [SV.den, Leaf.den, Atom.den] at ec
   refine wpIn_cond ec ?_
   cases b with
   | true => exact ihx orc hgd.1 r n nd2.1 M hM hBk cur st k t (by simpa using hq) Q hpan hout L env gs hk hL β a w hB hd hT
   | false => exact ihy orc hgd.2 r n nd2.2 M hM hBk cur st k t (by simpa using hq) Q hpan hout L env gs hk hL β a w hB hd hT
  ·rename_i v hne hc
   obtain ⟨t1, h1, hq⟩ := Option.bind_eq_some_iff.1 hq
   obtain ⟨t2, h2, rfl⟩ := Option.map_eq_some_iff.1 hq
   have ec := (hd.opd hc (by simp)).1
   simp only [SV.den, Leaf.den] at ec
   obtain ⟨b, hb, hb1, hb2⟩ := hT
   rw [hb] at ec
   refine wpIn_cond ec ?_
   cases b with
   | true => exact ihx orc hgd.1 r n nd2.1 M hM hBk cur st k t1 h1 Q hpan hout L env gs hk hL β a w hB hd (hb1 rfl)
   | false => exact ihy orc hgd.2 r n nd2.2 M hM hBk cur st k t2 h2 Q hpan hout L env gs hk hL β a w hB hd (hb2 rfl)
  ·cases hq
 | block id c ih =>
  replace ih := ih.1
  refine ⟨?_, trivial⟩
  intro orc hgd r n hnd M hM hBk cur st k t hq Q hpan hout L env gs hk hL β a w hB hd hT
  refine wpIn_block (ih orc (by simpa only [goodC] using hgd) r n hnd M hM hBk id st _ t hq (Exit.inBlock id Q) (fun c a d v w => hpan c a d v w) hout L env gs ?_ hL β a w hB hd hT)
  intro M' hM' e st' t' he L' env' gs' β' a' w' h1 h2 h3 h4 hB' h5 h6
  cases e with
  | exit id' =>
   simp only at he
   simp only [Exit.inBlock]
   split at he
   ·rename_i hid
    rw [if_pos hid]
    exact hk M' hM' _ _ _ he L' env' gs' β' a' w' h1 h2 h3 h4 hB' h5 h6
   ·rename_i hid
    rw [if_neg hid]
    exact hk M' hM' _ _ _ he L' env' gs' β' a' w' h1 h2 h3 h4 hB' h5 h6
  | _ => exact hk M' hM' _ _ _ he L' env' gs' β' a' w' h1 h2 h3 h4 hB' h5 h6
 | scope c ih =>
  obtain ⟨ih, ih2⟩ := ih
  refine ⟨?_, trivial⟩
  intro orc hgd r n hnd M hM hBk cur st k t hq Q hpan hout L env gs hk hL β a w hB hd hT
  simp only [compC] at hq
  split at hq
  case h_1 =>
   refine scopeR hnd (ih orc (by simpa only [goodC] using hgd) r n (hnd.imp id fun h => by cases h) M hM hBk cur st _ t hq (Exit.noGoto Q) (fun c a d v w => hpan c a d v w) hout L env gs ?_ hL β a w hB hd hT)
   intro M' hM' e st' t' he L' env' gs' β' a' w' h1 h2 h3 h4 hB' h5 h6
   cases e with
   | goto l => cases he
   | _ => exact hk M' hM' _ _ _ he L' env' gs' β' a' w' h1 h2 h3 h4 hB' h5 h6
  rename_i l items _
  obtain rfl : r = none := hnd.resolve_right fun h => by cases h
  split at hq
  case isFalse => cases hq
  rename_i hlab
  obtain ⟨y, rfl⟩ := labelOf_ok hlab
  clear hlab ih
  replace ih2 : CompOK P inl w0 R B0 y := ih2
  refine frzG _ β st t hq hd hT ?_
  clear hd hT hq
  intro β st0 t hq hsl hbl hn0 hdep hd hT
  obtain ⟨init, hin, hq⟩ := Option.bind_eq_some_iff.1 hq
  obtain ⟨body, hbo, rfl⟩ := Option.map_eq_some_iff.1 hq
  have hL : L.length = st0.dep := hL.trans hdep.symm
  clear hsl hbl hn0 hdep
  generalize st0 = st at *
  obtain ⟨σ, I, μ, s0, h0, hB2⟩ := hT
  have hso := setIs_other (items := items) (st := { st with slots := (dsts (.seq (.label l) y)).foldl (fun s t => s.set t .any) st.slots, rows := rowsI ((dsts (.seq (.label l) y)).foldl (fun s t => s.set t .any) st.slots) st.n items, n := st.n + (ksOf items).length, dep := st.dep + 1 }) (k := st.n)
  obtain ⟨s1, s2, s3, s4, s5⟩ := hso
  have okS : ∀ (t : Nat) x, (headOf st items (dsts (.seq (.label l) y))).slots[t]? = some x → x ≠ .any → isSlot items t = false → x.OK env gs := fun t x ht hx hi => by
   have ht' := (s1 t hi).symm.trans ht
   exact (hd.slots t x (kill_slot _ _ _ _ ht' hx) hx).2
  have okB : ∀ (b : Nat) x, (headOf st items (dsts (.seq (.label l) y))).blocks[b]? = some x → isBlk items b = false → ∀ s ∈ x.1, s.OK env gs := fun b x hb hi => by
   have hb' := (s2 b hi).symm.trans hb
   exact hd.segs hb'
  have hgl : gs.length = (headOf st items (dsts (.seq (.label l) y))).blocks.length := hd.gl.trans s3.symm
  obtain ⟨v1, v2⟩ := fits_ok hin hd (List.prefix_refl _) (List.prefix_refl _) hd.n hgl s4 okS okB
  have hgd' : goodC P orc.ords y = true := by
   simp only [goodC, Bool.and_eq_true] at hgd; exact hgd.2
  refine wp_scope_ghost (σ := σ) (fun s a w => ∃ vs β', B0 ≤ w.heap.size ∧ VarsOK (ksOf items) vs ∧ I s vs β' ∧ (∃ M', (M' = M ∨ (orc.rng.isSome = true ∧ M'.Good)) ∧ Den w0 M' β' (headOf st items (dsts (.seq (.label l) y))) (env ++ vs) gs a w)) μ s0 ⟨_, β, hB, v1, h0, M, .inl rfl, v2⟩ ?_
  intro s a1 w1 ⟨vs, β1, jB, j1, j2, M1, hM1, j3⟩
  refine ih2 orc hgd' none n (.inl rfl) M1 (fun ht => ⟨(hM ht).1, (hM ht).2.1, by
   rcases hM1 with rfl | hM1
   ·exact (hM ht).2.2
   ·exact hM1.2⟩) hBk cur _ _ body hbo (Exit.jump l (fun a' w' => ∃ s', (∃ vs β', B0 ≤ w'.heap.size ∧ VarsOK (ksOf items) vs ∧ I s' vs β' ∧ (∃ M', (M' = M ∨ (orc.rng.isSome = true ∧ M'.Good)) ∧ Den w0 M' β' (headOf st items (dsts (.seq (.label l) y))) (env ++ vs) gs a' w')) ∧ μ s' < μ s) Q) (fun c a d v w => hpan c a d v w) hout (L ++ [fun us β'' => ∃ s', I s' us β'' ∧ μ s' < μ s]) (env ++ vs) gs ?_ (by rw [List.length_append, hL]; exact s5.symm) β1 a1 w1 jB j3 (hB2 s vs β1 j1 j2)
  intro M2 hM2 e st' t' he L' env' gs' β2 a' w' q1 q2 q3 q4 qB q5 q6
  have hM3 : M2 = M ∨ (orc.rng.isSome = true ∧ M2.Good) := by
   rcases hM2 with rfl | hM2
   ·exact hM1
   ·exact .inr hM2
  cases e with
  | goto l' =>
   simp only at he
   split at he
   case isFalse => cases he
   rename_i hll
   refine ⟨hll, ?_⟩
   refine frzG _ β2 st' t' he q5 q6 ?_
   clear q5 q6 he
   intro β2 st' t' he _ _ _ _ q5 q6
   obtain ⟨v, hv, rfl⟩ := Option.map_eq_some_iff.1 he
   obtain ⟨p, hp, hpv⟩ := q6
   have hp' : p = fun us β'' => ∃ s', I s' us β'' ∧ μ s' < μ s := by
    obtain ⟨L2, rfl⟩ := q1
    rw [List.getElem?_append_left (by simp [hL]), List.getElem?_append_right (by omega), hL, Nat.sub_self] at hp
    simpa using hp.symm
   subst hp'
   obtain ⟨f1, f2⟩ := fits_ok hv q5 ((List.prefix_append _ _).trans q2) q3 hd.n hgl s4 okS okB
   obtain ⟨s', hs1, hs2⟩ := hpv
   exact ⟨s', ⟨_, β2, qB, f1, hs1, M2, hM3, f2⟩, hs2⟩
  | _ => exact hk M2 hM3 _ _ _ he L' env' gs' β2 a' w' ((List.prefix_append _ _).trans q1) ((List.prefix_append _ _).trans q2) q3 q4 qB q5 q6
 | loop c ih =>
  replace ih := ih.1
  refine ⟨?_, trivial⟩
  intro orc hgd r n hnd M hM hBk cur st k t hq Q hpan hout L env gs hk hL β a w hB hd hT
  simp only [compC] at hq
  obtain ⟨items, hit, hq⟩ := Option.bind_eq_some_iff.1 hq
  refine frzG _ β st t hq hd hT ?_
  clear hd hT hq
  intro β st0 t hq hsl hbl hn0 hdep hd hT
  obtain ⟨init, hin, hq⟩ := Option.bind_eq_some_iff.1 hq
  obtain ⟨body, hbo, rfl⟩ := Option.map_eq_some_iff.1 hq
  have hL : L.length = st0.dep := hL.trans hdep.symm
  clear hsl hbl hn0 hdep
  generalize st0 = st at *
  obtain ⟨σ, I, μ, s0, h0, hB2⟩ := hT
  have hso := setIs_other (items := items) (st := { st with slots := (dsts c).foldl (fun s t => s.set t .any) st.slots, rows := rowsI ((dsts c).foldl (fun s t => s.set t .any) st.slots) st.n items, n := st.n + (ksOf items).length, dep := st.dep + 1 }) (k := st.n)
  obtain ⟨s1, s2, s3, s4, s5⟩ := hso
  have okS : ∀ (t : Nat) x, (headOf st items (dsts c)).slots[t]? = some x → x ≠ .any → isSlot items t = false → x.OK env gs := fun t x ht hx hi => by
   have ht' := (s1 t hi).symm.trans ht
   exact (hd.slots t x (kill_slot _ _ _ _ ht' hx) hx).2
  have okB : ∀ (b : Nat) x, (headOf st items (dsts c)).blocks[b]? = some x → isBlk items b = false → ∀ s ∈ x.1, s.OK env gs := fun b x hb hi => by
   have hb' := (s2 b hi).symm.trans hb
   exact hd.segs hb'
  have hgl : gs.length = (headOf st items (dsts c)).blocks.length := hd.gl.trans s3.symm
  obtain ⟨v1, v2⟩ := fits_ok hin hd (List.prefix_refl _) (List.prefix_refl _) hd.n hgl s4 okS okB
  refine wp_loop_ghost (σ := σ) (fun s a w => ∃ vs β', B0 ≤ w.heap.size ∧ VarsOK (ksOf items) vs ∧ I s vs β' ∧ (∃ M', (M' = M ∨ (orc.rng.isSome = true ∧ M'.Good)) ∧ Den w0 M' β' (headOf st items (dsts c)) (env ++ vs) gs a w)) μ s0 ⟨_, β, hB, v1, h0, M, .inl rfl, v2⟩ ?_
  intro s a1 w1 ⟨vs, β1, jB, j1, j2, M1, hM1, j3⟩
  refine ih orc (by simpa only [goodC] using hgd) r n hnd M1 (fun ht => ⟨(hM ht).1, (hM ht).2.1, by
   rcases hM1 with rfl | hM1
   ·exact (hM ht).2.2
   ·exact hM1.2⟩) hBk cur _ _ body hbo (Exit.then (fun a' w' => ∃ s', (∃ vs β', B0 ≤ w'.heap.size ∧ VarsOK (ksOf items) vs ∧ I s' vs β' ∧ (∃ M', (M' = M ∨ (orc.rng.isSome = true ∧ M'.Good)) ∧ Den w0 M' β' (headOf st items (dsts c)) (env ++ vs) gs a' w')) ∧ μ s' < μ s) Q) (fun c a d v w => hpan c a d v w) hout (L ++ [fun us β'' => ∃ s', I s' us β'' ∧ μ s' < μ s]) (env ++ vs) gs ?_ (by rw [List.length_append, hL]; exact s5.symm) β1 a1 w1 jB j3 (hB2 s vs β1 j1 j2)
  intro M2 hM2 e st' t' he L' env' gs' β2 a' w' q1 q2 q3 q4 qB q5 q6
  have hM3 : M2 = M ∨ (orc.rng.isSome = true ∧ M2.Good) := by
   rcases hM2 with rfl | hM2
   ·exact hM1
   ·exact .inr hM2
  cases e with
  | normal =>
   simp only at he
   refine frzG _ β2 st' t' he q5 q6 ?_
   clear q5 q6 he
   intro β2 st' t' he _ _ _ _ q5 q6
   obtain ⟨v, hv, rfl⟩ := Option.map_eq_some_iff.1 he
   obtain ⟨p, hp, hpv⟩ := q6
   have hp' : p = fun us β'' => ∃ s', I s' us β'' ∧ μ s' < μ s := by
    obtain ⟨L2, rfl⟩ := q1
    rw [List.getElem?_append_left (by simp [hL]), List.getElem?_append_right (by omega), hL, Nat.sub_self] at hp
    simpa using hp.symm
   subst hp'
   obtain ⟨f1, f2⟩ := fits_ok hv q5 ((List.prefix_append _ _).trans q2) q3 hd.n hgl s4 okS okB
   obtain ⟨s', hs1, hs2⟩ := hpv
   exact ⟨s', ⟨_, β2, qB, f1, hs1, M2, hM3, f2⟩, hs2⟩
  | _ => exact hk M2 hM3 _ _ _ he L' env' gs' β2 a' w' ((List.prefix_append _ _).trans q1) ((List.prefix_append _ _).trans q2) q3 q4 qB q5 q6
 | exit id =>
  refine ⟨?_, trivial⟩
  intro orc _ r n hnd M hM hBk cur st k t hq Q hpan hout L env gs hk hL β a w hB hd hT
  exact wpIn_exit (hk M (.inl rfl) _ _ _ hq L env gs β a w (List.prefix_refl _) (List.prefix_refl _) (List.prefix_refl _) hL hB hd hT)
 | ret =>
  refine ⟨?_, trivial⟩
  intro orc _ r n hnd M hM hBk cur st k t hq Q hpan hout L env gs hk hL β a w hB hd hT
  exact wpIn_ret (hk M (.inl rfl) _ _ _ hq L env gs β a w (List.prefix_refl _) (List.prefix_refl _) (List.prefix_refl _) hL hB hd hT)
 | rangeFunc f params assign body iha ihb =>
  replace iha := iha.1
  replace ihb := ihb.1
  refine ⟨?_, trivial⟩
  intro orc hgd r n hnd M hM hBk cur st k t hq Q hpan hout L env gs hk hL β a w hB hd hT
  simp only [goodC, Bool.and_eq_true] at hgd
  simp only [compC] at hq
  split at hq
  ·cases hq
   exact False.elim hT
  rename_i gf items horc
  have htop : orc.rng.isSome = true := by rw [horc]; rfl
  have hIB : IsBack P gf := hBk _ horc
  obtain ⟨rfl, rfl, hGood⟩ := hM htop
  split at hq
  rotate_left
  ·cases hq
  rename_i p1 p2 g b hps hop
  split at hq
  rotate_left
  ·cases hq
  rename_i hc
  obtain ⟨rfl, hnd1, hnd2, hnb⟩ := hc
  obtain rfl : params = #[p1, p2] := by rw [← hps]
  refine frzG _ β st t hq hd hT ?_
  clear hd hT hq
  intro β st0 t hq hsl hbl hn0 hdep hd hT
  obtain ⟨kv, hkv, hq⟩ := Option.bind_eq_some_iff.1 hq
  obtain ⟨init, hin, hq⟩ := Option.bind_eq_some_iff.1 hq
  obtain ⟨tb, htb, hq⟩ := Option.bind_eq_some_iff.1 hq
  obtain ⟨ta, hta, rfl⟩ := Option.map_eq_some_iff.1 hq
  have hL : L.length = st0.dep := hL.trans hdep.symm
  have hop : opd st0 f = .leaf (.atom (.clo (.func g) [(b, 0)])) := by
   rw [← hop]; cases f <;> first | rfl | (simp only [opd, hsl])
  clear hsl hbl hn0 hdep
  generalize st0 = st at *
  obtain ⟨xs, I, hxs, i0, iv, ib, ia⟩ := hT
  have hso := setIs_other (items := items) (st := { st with slots := ([] : List Tmp).foldl (fun s t => s.set t .any) st.slots, rows := rowsI (([] : List Tmp).foldl (fun s t => s.set t .any) st.slots) st.n items, n := st.n + (ksOf items).length, dep := st.dep + 1 }) (k := st.n)
  obtain ⟨s1, s2, s3, s4, s5⟩ := hso
  have okS : ∀ (t : Nat) x, (headOf st items []).slots[t]? = some x → x ≠ .any → isSlot items t = false → x.OK env gs := fun t x ht hx hi => by
   have ht' := (s1 t hi).symm.trans ht
   exact (hd.slots t x ht' hx).2
  have okB : ∀ (b : Nat) x, (headOf st items []).blocks[b]? = some x → isBlk items b = false → ∀ s ∈ x.1, s.OK env gs := fun b x hb hi => by
   have hb' := (s2 b hi).symm.trans hb
   exact hd.segs hb'
  have hgl : gs.length = (headOf st items []).blocks.length := hd.gl.trans s3.symm
  obtain ⟨v1, v2⟩ := fits_ok hin hd (List.prefix_refl _) (List.prefix_refl _) hd.n hgl s4 okS okB
  have hev : a.eval f = .func (.func g) #[] #[.pointer (some ⟨gs.getD b 0, 0, none⟩)] := (hd.opd hop (by simp)).1
  have hw0 : w0.heap.size ≤ w.heap.size := hd.mem.below.size
  have hup : β.w.heap.size ≤ w.heap.size := hd.bas.up.size
  have hlt : ∀ m ∈ M.ks, m.1 < w.heap.size := fun m hm => hd.df.lt hm
  have hkvl : kv < env.length := by
   unfold boxK at hkv
   split at hkv
   ·rename_i u kv' T hu
    cases hkv
    exact (okB b _ hu hnb (.one (.var kv)) (by simp)).1
   ·cases hkv
  -- the marks
  obtain ⟨mk, hmk⟩ : ∃ mk : Loop → List (Nat × Obj), mk = fun q => (w.heap.size + 1, .loop q) :: (w.heap.size, .deferred (some [])) :: M.ks := ⟨_, rfl⟩
  have mk1 : ∀ q, (w.heap.size + 1, Obj.loop q) ∈ mk q := fun q => by rw [hmk]; simp
  have mkT : ∀ q q' m, m ∈ mk q' → (m ∈ mk q ∧ m.1 ≠ w.heap.size + 1) ∨ (m = (w.heap.size + 1, .loop q') ∧ (Obj.loop q').isCells = false) := fun q q' m hm => by
   rw [hmk] at hm ⊢
   rcases List.mem_cons.1 hm with rfl | hm
   ·exact .inr ⟨rfl, rfl⟩
   ·refine .inl ⟨List.mem_cons_of_mem _ hm, ?_⟩
    rcases List.mem_cons.1 hm with rfl | hm
    ·simp
    ·have := hlt m hm; omega
  have hgoodA : ∀ q, (Marks.mk ({ target := .collected w.heap.size, args := #[] } :: M.ds) (mk q)).Good := fun q => by
   refine ⟨fun d hd' => ?_, List.pairwise_cons.2 ⟨fun d hd' => ?_, hGood.pw⟩⟩
   ·rcases List.mem_cons.1 hd' with rfl | hd'
    ·exact ⟨_, rfl, by rw [hmk]; simp⟩
    ·obtain ⟨D, e, hD⟩ := hGood.ks d hd'
     exact ⟨D, e, by rw [hmk]; exact List.mem_cons_of_mem _ (List.mem_cons_of_mem _ hD)⟩
   ·obtain ⟨D, rfl, hD⟩ := hGood.ks d hd'
    have := hlt _ hD
    simp only [ne_eq, Target.collected.injEq]
    simp only at this
    omega
  refine rangeBack (Q := Q) (v := env.getD kv undef) hev hIB hxs
   (fun j q W => ∃ vs β', B0 ≤ W.heap.size ∧ VarsOK (ksOf items) vs ∧ I j vs β' ∧ Den w0 ⟨M.ds, mk q⟩ β' (headOf st items []) (env ++ vs) gs a W)
   (fun c q W => ∃ e st' t' L' env' gs' β', ((c = .ret ∧ e = .ret) ∨ ∃ id, c = .exit id ∧ e = .exit id) ∧ k e st' = some t' ∧ L <+: L' ∧ env <+: env' ∧ gs <+: gs' ∧ L'.length = st'.dep ∧ B0 ≤ W.heap.size ∧
     Den w0 ⟨{ target := .collected w.heap.size, args := #[] } :: M.ds, mk q⟩ β' st' env' gs' { a with defers := { target := .collected w.heap.size, args := #[] } :: a.defers } W ∧ TWb P w0 R t' L' env' gs' β')
   ?_ ?_ ?_ ?_ ?_ ?_ ?_ ?_ ?_
  ·rintro j q W ⟨vs, β', _, _, _, hD⟩
   exact (hD.df.ks _ (mk1 q)).2.1
  ·rintro j q W ⟨vs, β', _, _, hI', hD⟩
   have hlt2 : (env ++ vs).getD kv undef = env.getD kv undef := getD_pre (List.prefix_append _ _) hkvl _
   refine ⟨?_, iv j vs β' hI' W hD.bas.up⟩
   unfold boxK at hkv
   split at hkv
   ·rename_i u kv' T hu
    cases hkv
    have hO := hD.own hu (Fut.refl W)
    exact hO.cell_of 0 (v := env.getD kv undef) (by rw [← hlt2]; simp [flat, Seg.den, Atom.den])
   ·cases hkv
  ·rintro j q q' W ⟨vs, β', h1, h2, h3, hD⟩
   refine ⟨vs, β', by simpa using h1, h2, h3, ?_⟩
   have := Den.put_mark (M' := ⟨M.ds, mk q'⟩) (ds := M.ds) hD (mk1 q) (.loop q') (mkT q q') rfl
   rwa [show ({ a with defers := M.ds } : Act) = a from by rw [← hd.df.ds]] at this
  ·rintro c q W ⟨e, st', t', L', env', gs', β', _, _, _, _, _, _, _, hD, _⟩
   exact (hD.df.ks _ (mk1 q)).2.1
  ·rintro c q q' W ⟨e, st', t', L', env', gs', β', h1, h2, h3, h4, h5, h6, h7, hD, h8⟩
   refine ⟨e, st', t', L', env', gs', β', h1, h2, h3, h4, h5, h6, by simpa using h7, ?_, h8⟩
   have := Den.put_mark (M' := ⟨{ target := .collected w.heap.size, args := #[] } :: M.ds, mk q'⟩) (ds := { target := .collected w.heap.size, args := #[] } :: M.ds) hD (mk1 q) (.loop q') (mkT q q') rfl
   rwa [show ({ ({ a with defers := { target := .collected w.heap.size, args := #[] } :: a.defers } : Act) with defers := { target := .collected w.heap.size, args := #[] } :: M.ds } : Act) = { a with defers := { target := .collected w.heap.size, args := #[] } :: a.defers } from by rw [← hd.df.ds]] at this
  ·intro q
   refine ⟨_, β, by simp; omega, v1, i0, ?_⟩
   have hF : Fut w ((w.alloc (.deferred (some []))).alloc (.loop q)) := ((Below.refl _ w).alloc (Nat.le_refl _) _).alloc (by simp) _
   have h2 := (v2.fut hF).marks (M' := ⟨M.ds, mk q⟩) (ds := M.ds) ⟨rfl, fun m hm => ?_⟩
   ·rwa [show ({ a with defers := M.ds } : Act) = a from by rw [← hd.df.ds]] at h2
   ·rw [hmk] at hm
    rcases List.mem_cons.1 hm with rfl | hm
    ·refine ⟨by simp; omega, ?_, rfl, fun hx => by simp only at hx; omega⟩
     have := World.alloc_heap_new (w.alloc (.deferred (some []))) (.loop q)
     rwa [World.size_alloc] at this
    ·rcases List.mem_cons.1 hm with rfl | hm
     ·exact ⟨hw0, (Below.heap_alloc _ _ _ (by simp)).trans (World.alloc_heap_new w _), rfl, fun hx => by simp only at hx; omega⟩
     ·obtain ⟨a1, a2, a3, a4⟩ := (hd.df.fut hF).ks m hm
      exact ⟨a1, a2, a3, a4⟩
  ·rintro j q W hj ⟨vs, β', hB', h2, h3, hD⟩
   have hR : Den w0 ⟨[], mk q⟩ β' (roundSt (headOf st items []) p1 p2) ((env ++ vs) ++ [.int .i64 ((xs.length : Int) - 1 - j), .int .i64 (xs.getD (xs.length - 1 - j) 0)]) gs
    { tmps := (a.tmps.setIfInBounds p1 (.int .i64 ((xs.length : Int) - 1 - j))).setIfInBounds p2 (.int .i64 (xs.getD (xs.length - 1 - j) 0)), defers := [] } W := by
    have h1 := (hD.grow [.int .i64 ((xs.length : Int) - 1 - j), .int .i64 (xs.getD (xs.length - 1 - j) 0)] rfl).marks (M' := ⟨[], mk q⟩) (ds := []) ⟨rfl, hD.df.ks⟩
    have hn : (env ++ vs).length = (headOf st items []).n := hD.n
    have g1 : ((env ++ vs) ++ [Value.int .i64 ((xs.length : Int) - 1 - j), .int .i64 (xs.getD (xs.length - 1 - j) 0)]).getD (headOf st items []).n undef = .int .i64 ((xs.length : Int) - 1 - j) := by
     rw [← hn]; simp [List.getD]
    have g2 : ((env ++ vs) ++ [Value.int .i64 ((xs.length : Int) - 1 - j), .int .i64 (xs.getD (xs.length - 1 - j) 0)]).getD ((headOf st items []).n + 1) undef = .int .i64 (xs.getD (xs.length - 1 - j) 0) := by
     rw [← hn]; simp only [List.getD]; rw [List.getElem?_append_right (by omega), Nat.add_sub_cancel_left]; rfl
    have h4 := h1.put (some p1) (v := .leaf (.atom (.var (headOf st items []).n))) (x := .int .i64 ((xs.length : Int) - 1 - j)) (fun _ => ⟨by simp only [SV.den, Leaf.den, Atom.den, g1], by rw [← hn]; simp, by rw [g1]; rfl⟩)
    exact h4.put (some p2) (v := .leaf (.atom (.var ((headOf st items []).n + 1)))) (x := .int .i64 (xs.getD (xs.length - 1 - j) 0)) (fun _ => ⟨by simp only [SV.den, Leaf.den, Atom.den, g2], by rw [← hn]; simp; omega, by rw [g2]; rfl⟩)
   have hpre : env <+: (env ++ vs) ++ [Value.int .i64 ((xs.length : Int) - 1 - j), .int .i64 (xs.getD (xs.length - 1 - j) 0)] := (List.prefix_append _ _).trans (List.prefix_append _ _)
   have hLd : (L ++ [fun us β'' => I (j + 1) us β'']).length = (roundSt (headOf st items []) p1 p2).dep := by
    rw [List.length_append, hL]; exact s5.symm
   refine iha { orc with rng := none } hgd.1 (some (w.heap.size + 1)) 0 (.inr hnd1) ⟨[], mk q⟩ (fun hh => by cases hh) (fun x hx => by cases hx) cur _ _ tb htb _ (fun c a d v w => Iff.rfl) (fun _ _ h => h) (L ++ [fun us β'' => I (j + 1) us β'']) _ gs ?_ hLd β' _ W hB' hR (ib j vs β' hj h2 h3)
   intro M1 hM1 e st1 t1 he L1 env1 gs1 β1 a1 w1 q1 q2 q3 q4 qB q5 q6
   obtain rfl : M1 = ⟨[], mk q⟩ := hM1.resolve_right (fun hh => by cases hh.1)
   cases e with
   | normal =>
    refine ⟨(q5.df.ks _ (mk1 q)).2.1, ?_⟩
    have q5' := Den.put_mark (M' := ⟨[], mk { q with state := .busy }⟩) (ds := []) q5 (mk1 q) (.loop { q with state := .busy }) (mkT q _) rfl
    have ea : ({ a1 with defers := [] } : Act) = a1 := by have := q5.df.ds; simp only at this; rw [← this]
    rw [ea] at q5'
    refine ihb { orc with rng := none } hgd.2 (some (w.heap.size + 1)) 0 (.inr hnd2) ⟨[], mk { q with state := .busy }⟩ (fun hh => by cases hh) (fun x hx => by cases hx) cur _ _ t1 he _ (fun c a d v w => Iff.rfl) (fun _ _ h => h) L1 env1 gs1 ?_ q4 β1 a1 _ (by simpa using qB) q5' q6
    intro M2 hM2 e st2 t2 he L2 env2 gs2 β2 a2 w2 r1 r2 r3 r4 rB r5 r6
    obtain rfl : M2 = ⟨[], mk { q with state := .busy }⟩ := hM2.resolve_right (fun hh => by cases hh.1)
    have hE : Den w0 ⟨M.ds, mk { q with state := .busy }⟩ β2 (roundEnd st st2) env2 gs2 a w2 := by
     refine ⟨r5.n, r5.gl, hd.sl, fun t x ht hx => ?_, r5.mem, r5.bok, ⟨hd.df.ds, r5.df.ks⟩, r5.rws, r5.bas⟩
     obtain ⟨g1, g2⟩ := hd.slots t x ht hx
     obtain ⟨p1, p2⟩ := SV.pre (hpre.trans (q2.trans r2)) (q3.trans r3) g2
     exact ⟨by rw [g1, p2], p1⟩
    have hA : Den w0 ⟨{ target := .collected w.heap.size, args := #[] } :: M.ds, mk { q with state := .busy }⟩ β2 (roundEnd st st2) env2 gs2 { a with defers := { target := .collected w.heap.size, args := #[] } :: a.defers } w2 :=
     hE.marks ⟨by rw [hd.df.ds], hE.df.ks⟩
    have hLp : L <+: L2 := (List.prefix_append _ _).trans (q1.trans r1)
    cases e with
    | normal =>
     refine frzG _ β2 (roundEnd st st2) t2 he hE r6 ?_
     intro β3 st3 t3 he3 _ _ _ _ hE3 r63
     obtain ⟨vv, hvv, rfl⟩ := Option.map_eq_some_iff.1 he3
     obtain ⟨p, hp, hpv⟩ := r63
     have hp' : p = fun us β'' => I (j + 1) us β'' := by
      obtain ⟨L3, rfl⟩ := q1.trans r1
      rw [List.getElem?_append_left (by simp [hL]), List.getElem?_append_right (by omega), hL, Nat.sub_self] at hp
      simpa using hp.symm
     subst hp'
     obtain ⟨f1, f2⟩ := fits_ok hvv hE3 (hpre.trans (q2.trans r2)) (q3.trans r3) hd.n hgl s4 okS okB
     exact ⟨_, β3, rB, f1, hpv, f2⟩
    | ret => exact ⟨.ret, _, t2, L2, env2, gs2, β2, .inl ⟨rfl, rfl⟩, he, hLp, hpre.trans (q2.trans r2), q3.trans r3, r4, rB, hA, r6⟩
    | exit id => exact ⟨.exit id, _, t2, L2, env2, gs2, β2, .inr ⟨id, rfl, rfl⟩, he, hLp, hpre.trans (q2.trans r2), q3.trans r3, r4, rB, hA, r6⟩
    | _ => cases he
   | _ => cases he
  ·rintro q W ⟨vs, β', hB', h2, h3, hD⟩
   refine hk ⟨_, mk q⟩ (.inr ⟨htop, hgoodA q⟩) .normal _ ta hta L (env ++ vs) gs β' _ W (List.prefix_refl _) (List.prefix_append _ _) (List.prefix_refl _) hL hB' ?_ (ia vs β' h2 h3)
   have := hD.marks (M' := ⟨{ target := .collected w.heap.size, args := #[] } :: M.ds, mk q⟩) (ds := { target := .collected w.heap.size, args := #[] } :: a.defers) ⟨by rw [hd.df.ds], hD.df.ks⟩
   exact ⟨this.n, this.gl, this.sl, this.slots, this.mem, this.bok, this.df, this.rws, this.bas⟩
  ·rintro c q W ⟨e, st', t', L', env', gs', β', hce, h2, h3, h4, h5, h6, h7, hD, h8⟩
   have := hk _ (.inr ⟨htop, hgoodA q⟩) e st' t' h2 L' env' gs' β' _ W h3 h4 h5 h6 h7 hD h8
   rcases hce with ⟨rfl, rfl⟩ | ⟨id, rfl, rfl⟩
   ·exact wpIn_ret this
   ·exact wpIn_exit this
 | goto l =>
  refine ⟨?_, trivial⟩
  intro orc _ r n hnd M hM hBk cur st k t hq Q hpan hout L env gs hk hL β a w hB hd hT
  exact wpIn_goto (hk M (.inl rfl) _ _ _ hq L env gs β a w (List.prefix_refl _) (List.prefix_refl _) (List.prefix_refl _) hL hB hd hT)
 | refuse why =>
  refine ⟨?_, trivial⟩
  intro orc _ r n _ M _ _ cur st k t hq; cases hq
theorem compC_ok (hI : InlOK P inl) {B0 : Nat} (c : Code) : CompOK P inl w0 R B0 c := (compC_both hI c).1

theorem slotsIn_ok {ps : List Leaf} {n : Nat} (ok : ∀ x ∈ ps, x.OK env gs) (t : Nat) (x : SV) (ht : (slotsIn ps n)[t]? = some x) :
 (Array.mk (ps.map (Leaf.den env gs)) ++ Array.replicate (n - (ps.map (Leaf.den env gs)).toArray.size) undef).getD t undef = x.den env gs ∧ x.OK env gs := by
 unfold slotsIn at ht
 by_cases hlt : t < ps.length
 ·rw [List.getElem?_append_left (by simpa using hlt)] at ht
  rw [List.getElem?_map, List.getElem?_eq_getElem hlt] at ht
  cases ht
  refine ⟨?_, ok _ (List.getElem_mem _)⟩
  simp [Array.getD, hlt, SV.den]
  omega
 ·rw [List.getElem?_append_right (by simp; omega)] at ht
  have hx' := List.eq_of_mem_replicate (List.mem_of_getElem? ht)
  subst hx'
  refine ⟨?_, fun y hy => by cases hy⟩
  have hl := (List.getElem?_eq_some_iff.1 ht).1
  simp only [List.length_map, List.length_replicate] at hl
  have : t < (Array.mk (ps.map (Leaf.den env gs)) ++ Array.replicate (n - (ps.map (Leaf.den env gs)).toArray.size) undef).size := by simp; omega
  simp [Array.getElem?_append, hlt, SV.den]
  rw [Array.getElem?_replicate, if_pos hl]
  rfl
theorem calleeS_leaves (h : Den w0 M β st env gs a w) {o : Oper} {ga : FuncId × List Leaf} (hc : calleeS P st o = some ga) : ∀ x ∈ ga.2, x.OK env gs := by
 unfold calleeS at hc
 split at hc
 ·split at hc
  ·split at hc
   ·rename_i g caps hx
    split at hc
    ·obtain ⟨args, ha, rfl⟩ := Option.map_eq_some_iff.1 hc
     have ok := (h.opd hx (by simp)).2
     intro x hx
     rcases List.mem_append.1 hx with hx | hx
     ·exact (leafs_ok h _ _ ha).2 x hx
     ·obtain ⟨c, hc, rfl⟩ := List.mem_map.1 hx
      exact ok c hc
    ·cases hc
   ·rename_i g ks hx
    split at hc
    ·obtain ⟨args, ha, rfl⟩ := Option.map_eq_some_iff.1 hc
     have ok := (h.opd hx (by simp)).2
     intro x hx
     rcases List.mem_cons.1 hx with rfl | hx
     ·intro s hs
      obtain ⟨k, hk, rfl⟩ := List.mem_map.1 hs
      exact mseg_ok.2 (ok k hk)
     ·exact (leafs_ok h _ _ ha).2 x hx
    ·cases hc
   ·cases hc
  ·cases hc
 ·cases hc
theorem inlN_ok : ∀ n, InlOK P (inlN P n)
 | 0 => fun oi w0 M R L st env gs β a w o k t Q K hq => by cases hq
 | n + 1 => fun oi w0 M R L st env gs β a w o k t Q K hq hd hL hT hK => by
  simp only [inlN] at hq
  obtain ⟨ga, hga, hq⟩ := Option.bind_eq_some_iff.1 hq
  obtain ⟨fn, hf, hq⟩ := Option.bind_eq_some_iff.1 hq
  obtain ⟨c, hb, hq⟩ := Option.bind_eq_some_iff.1 hq
  split at hq
  ·rename_i hgd
   simp only [Bool.and_eq_true, decide_eq_true_eq, Option.isNone_iff_eq_none] at hgd
   have okl := calleeS_leaves hd hga
   unfold Oper.wp
   rw [calleeS_ok hd hga w, Oper.upon_enter]
   refine calls_of_wp hf hb (wp_mono (wpIn_wide.1 (compC_ok (B0 := w.heap.size) (inlN_ok n) c oi hgd.1.1 none 2 (.inl rfl) ⟨[], M.ks⟩ (fun ht => by rw [hgd.2] at ht; cases ht) (fun x hx => by rw [hgd.2] at hx; cases hx) 0 _ _ t hq (finQ fun a' w' => a'.defers = [] ∧ ∃ v, (results fn a'.tmps).run P w' = .ok v w' ∧ K (a.put o.dst v) w') (finQ_pan _) (finQ_out _) L env gs ?_ hL β _ w (Nat.le_refl _) ?_ hT)) ?_)
   rotate_left 2
   ·intro e a' w' he
    cases e with
    | normal => exact he
    | ret => exact he
    | _ => exact he.elim
   ·intro M' hM' e st' t' he L' env' gs' β' a' w' h1 h2 h3 h4 hB h5 h6
    obtain rfl : M' = ⟨[], M.ks⟩ := hM'.resolve_right (fun hh => by rw [hgd.2] at hh; cases hh.1)
    have fin : ((fn.results.toList.mapM (resS P st')).bind fun l => k (({ st' with slots := st.slots } : Sym).put o.dst (retV l))) = some t' → a'.defers = [] ∧ ∃ v, (results fn a'.tmps).run P w' = .ok v w' ∧ K (a.put o.dst v) w' := by
     intro he
     obtain ⟨l, hl, he⟩ := Option.bind_eq_some_iff.1 he
     refine ⟨h5.df.ds, _, resS_ok hl h5, hK _ t' L' env' gs' β' _ w' hB he h1 ?_ h2 h3 (Den.put ?_ o.dst fun _ => ⟨rfl, retV_ok (resS_leaf h5 _ _ hl)⟩) h6⟩
     ·cases o.dst <;> exact h4
     ·refine ⟨h5.n, h5.gl, hd.sl, fun t x ht hx => ?_, h5.mem, h5.bok, ⟨hd.df.ds, h5.df.ks⟩, h5.rws, h5.bas⟩
      obtain ⟨g1, g2⟩ := hd.slots t x ht hx
      obtain ⟨p1, p2⟩ := SV.pre h2 h3 g2
      exact ⟨by rw [g1, p2], p1⟩
    cases e with
    | normal => exact fin he
    | ret => exact fin he
    | _ => cases he
   ·refine ⟨hd.n, hd.gl, ?_, fun t x ht hx => slotsIn_ok okl t x ht, hd.mem, hd.bok, ⟨rfl, hd.df.ks⟩, hd.rws, hd.bas⟩
    simp [slotsIn]
  ·cases hq
def symIn (ps : List Leaf) (ntmps n : Nat) : Sym := { slots := ps.map .leaf ++ List.replicate (ntmps - ps.length) (.tup []), blocks := [], rows := [], n := n, dep := 0 }

theorem rng_no {orc : Orc} (h : orc.rng = none) : ∀ x, orc.rng = some x → IsBack P x.1 := fun x hx => by rw [h] at hx; cases hx
theorem calls_treeB {f : FuncId} {fn : Func} {c : Code} (orc : Orc) (ps : List Leaf) (env : List Value) {args : Array Value} {R : Ending → World → Prop} {t : Tree} (x : Nat → Prop) (hf : P.funcs[f]? = some fn) (hb : fn.body = some c)
 (hc : compF P fn orc c (symIn ps fn.ntmps env.length) = some t) (ha : args = (ps.map (Leaf.den env [])).toArray) (ok : ∀ x ∈ ps, x.OK env [])
 (hT : TWb P w R t [] env [] ⟨w, x⟩) (hgd : goodC P orc.ords c = true := by exact goodC_nil _ _) (hbk : ∀ x, orc.rng = some x → IsBack P x.1 := by exact rng_no rfl) : Calls P f args w R := by
 subst ha
 refine callsIn_wide.1 (callsIn_of_wp_marks (n := 2) hf hb trivial (wpIn_mono (compC_ok (B0 := 0) (inlN_ok 6) c orc hgd none 2 (.inl rfl) ⟨[], []⟩ (fun _ => ⟨rfl, rfl, Marks.none_good⟩) hbk 0 _ _ t hc (finQ fun a' w' => LeavesInM Fence.wide 2 P fn a'.tmps R a'.defers .returning w') (finQ_pan _) (finQ_out _) [] env [] ?_ rfl ⟨w, x⟩ _ w (Nat.zero_le _) ?_ hT) ?_))
 rotate_left 2
 ·intro e a' w' he
  cases e with
  | normal => exact he
  | ret => exact he
  | _ => exact he.elim
 ·intro M' hM' e st' t' he L' env' gs' β' a' w' h1 h2 h3 h4 _ h5 h6
  have hG : M'.Good := by
   rcases hM' with rfl | hM'
   ·exact Marks.none_good
   ·exact hM'.2
  cases e with
  | normal => exact retC_ok he h5 hG h6
  | ret => exact retC_ok he h5 hG h6
  | _ => cases he
 ·refine ⟨rfl, rfl, by simp [symIn], fun t x ht hx => ?_, ⟨Below.refl _ _, by simp [bsD], by simp [bsD]⟩, by simp [symIn], DfOK.none, ⟨by simp [symIn], by simp [symIn], by simp [symIn]⟩, ⟨Upto.refl _ _, fun k hk _ => by rcases hk with hk | ⟨r, hr, _⟩ <;> simp [symIn] at *⟩⟩
  simp only [symIn] at ht
  by_cases hlt : t < ps.length
  ·rw [List.getElem?_append_left (by simpa using hlt)] at ht
   rw [List.getElem?_map, List.getElem?_eq_getElem hlt] at ht
   cases ht
   refine ⟨?_, ok _ (List.getElem_mem _)⟩
   simp [Array.getD, hlt, SV.den]
   omega
  ·rw [List.getElem?_append_right (by simp; omega)] at ht
   have hx' := List.eq_of_mem_replicate (List.mem_of_getElem? ht)
   subst hx'
   refine ⟨?_, fun y hy => by cases hy⟩
   have hl := (List.getElem?_eq_some_iff.1 ht).1
   simp only [List.length_map, List.length_replicate] at hl
   have : t < (Array.mk (ps.map (Leaf.den env [])) ++ Array.replicate (fn.ntmps - (ps.map (Leaf.den env [])).toArray.size) undef).size := by simp; omega
   simp [Array.getElem?_append, hlt, SV.den]
   rw [Array.getElem?_replicate, if_pos hl]
   rfl
theorem calls_tree {f : FuncId} {fn : Func} {c : Code} (orc : Orc) (ps : List Leaf) (env : List Value) {args : Array Value} {R : Ending → World → Prop} {t : Tree} (hf : P.funcs[f]? = some fn) (hb : fn.body = some c)
 (hc : compF P fn orc c (symIn ps fn.ntmps env.length) = some t) (ha : args = (ps.map (Leaf.den env [])).toArray) (ok : ∀ x ∈ ps, x.OK env [])
 (hT : TWp P w R t [] env []) (hgd : goodC P orc.ords c = true := by exact goodC_nil _ _) (hbk : ∀ x, orc.rng = some x → IsBack P x.1 := by exact rng_no rfl) : Calls P f args w R := calls_treeB orc ps env (fun _ => False) hf hb hc ha ok (hT _) hgd hbk
end
end Go.Proofs.Ytdpongijmmdnoaa
/- Steps of a tree: calls by their contracts, operations on numbers, ends. Over any program. -/
namespace Go.Proofs.Ytdpongijmmdnoaa
open Go.RowKit FdP FdP.Ch

def OutV (v : Value) (W : World) (e : Ending) (w' : World) : Prop := e = .returned v ∧ Fut W w'
def OutE (x : F) (W : World) (e : Ending) (w' : World) : Prop := ∃ l, e = .returned (AG (us l)) ∧ E l x ∧ Fut W w'

section
variable {P : Program} {w0 : World} {R : Ending → World → Prop} {L : List (List Value → Prop)} {env : List Value} {gs : List Nat}

theorem NewB.nil (W w' : World) (env : List Value) (gs : List Nat) : NewB W w' (bsA env gs [] []) := ⟨(by intro x hx; cases hx), List.Pairwise.nil⟩

theorem tw_new {k : Tree} (h : ∀ g, TWp P w0 R k L env (gs ++ [g])) : TWp P w0 R (.new k) L env gs := fun β g => h g β

theorem tw_call {f : FuncId} {args : List Leaf} {bl : Mem} {r : SV} {n : Nat} {k : Tree} (C : World → Ending → World → Prop)
 (hc : ∀ W, Mm w0 W env gs bl → Calls P f (args.map (Leaf.den env gs)).toArray W (C W))
 (hk : ∀ W e w', C W e w' → ∃ vs, vs.length = n ∧ e = .returned (r.den (env ++ vs) gs) ∧ r.OK (env ++ vs) gs ∧ Fut W w' ∧ TWp P w0 R k L (env ++ vs) gs) :
 TWp P w0 R (.call f args bl r n [] k) L env gs := by
 intro β W hW _
 refine (hc W hW).mono fun e w' h => ?_
 obtain ⟨vs, h1, h2, h3, h4, h5⟩ := hk W e w' h
 refine ⟨vs, [], h1, rfl, by rw [List.append_nil]; exact h2, by rw [List.append_nil]; exact h3, (by intro b hb; cases hb), h4, NewB.nil _ _ _ _, by rw [List.append_nil]; exact h5 _⟩

theorem agg_new {cs : List Value} {m n : Nat} (hm : env.length = m) (hl : cs.length = n) (h1 : ∀ x ∈ cs, x.oneCell' = true) : AggN (env ++ [.agg cs.toArray]) m n :=
 ⟨cs, by rw [← hm]; simp, hl, h1⟩
theorem cells_new {cs : List Value} {m : Nat} (hm : env.length = m) : cellsAt (env ++ [.agg cs.toArray]) m = cs := by
 subst hm; simp [cellsAt, List.getD, Value.cells]

theorem tw_agg {f : FuncId} {args : List Leaf} {bl : Mem} {k : Tree} {m n : Nat} {cs : List Value}
 (hc : ∀ W, Mm w0 W env gs bl → Calls P f (args.map (Leaf.den env gs)).toArray W (OutV (AG cs) W))
 (hm : env.length = m) (hl : cs.length = n) (h1 : ∀ x ∈ cs, x.oneCell' = true) (hk : TWp P w0 R k L (env ++ [AG cs]) gs) :
 TWp P w0 R (.call f args bl (.leaf (.agg [.whole m n])) 1 [] k) L env gs := by
 refine tw_call _ hc fun W e w' ⟨he, hF⟩ => ⟨[AG cs], rfl, ?_, ?_, hF, hk⟩
 ·rw [he]; simp only [SV.den, Leaf.den, catS, Seg.den, AG, cells_new hm]
 ·intro s hs; simp only [List.mem_singleton] at hs; subst hs; exact agg_new hm hl h1

theorem tw_bool {f : FuncId} {args : List Leaf} {bl : Mem} {k k' : Tree} (c : Bool)
 (hc : ∀ W, Mm w0 W env gs bl → Calls P f (args.map (Leaf.den env gs)).toArray W (OutV (.bool c) W))
 (ht : c = true → TWp P w0 R k L env gs) (hf : c = false → TWp P w0 R k' L env gs) :
 TWp P w0 R (.call2 f args bl (.leaf (.atom (.const (.bool true)))) 0 [] k (.leaf (.atom (.const (.bool false)))) 0 [] k') L env gs := by
 intro β W hW _
 refine (hc W hW).mono fun e w' ⟨he, hF⟩ => ?_
 cases c with
 | true => exact .inl ⟨[], [], rfl, rfl, by rw [he]; rfl, rfl, (by intro b hb; cases hb), hF, NewB.nil _ _ _ _, by rw [List.append_nil, List.append_nil]; exact ht rfl _⟩
 | false => exact .inr ⟨[], [], rfl, rfl, by rw [he]; rfl, rfl, (by intro b hb; cases hb), hF, NewB.nil _ _ _ _, by rw [List.append_nil, List.append_nil]; exact hf rfl _⟩

def opv (ev : List (Tmp × SV)) (env : List Value) (gs : List Nat) : Operand → Option Value
 | .tmp t => (ev.lookup t).map (SV.den env gs)
 | .const v => some v
 | _ => none
theorem lookup_mem : ∀ {ev : List (Tmp × SV)} {t : Tmp} {x : SV}, ev.lookup t = some x → (t, x) ∈ ev
 | [], _, _, h => by cases h
 | (u, y) :: r, t, x, h => by
  simp only [List.lookup] at h
  split at h
  ·rename_i hh; cases h; simp at hh; subst hh; simp
  ·exact List.mem_cons_of_mem _ (lookup_mem h)
theorem opv_ok {ev : List (Tmp × SV)} {a : Act} {x : Operand} {v : Value} (h : opv ev env gs x = some v) (he : ∀ y ∈ ev, a.eval (.tmp y.1) = y.2.den env gs) : a.eval x = v := by
 cases x with
 | tmp t =>
  simp only [opv] at h
  obtain ⟨y, hy, rfl⟩ := Option.map_eq_some_iff.1 h
  exact he _ (lookup_mem hy)
 | const c => simp only [opv] at h; cases h; rfl
 | global g => cases h
 | func f => cases h

theorem tw_calc {op : Op} {ty : TypeId} {ev : List (Tmp × SV)} {bl : Mem} {k : Tree} {m : Nat} {v : Value}
 (hx : ∀ (o : Oper) (a : Act) (W : World), o.op = op → o.type = ty → (∀ x ∈ ev, a.eval (.tmp x.1) = x.2.den env gs) → Mm w0 W env gs bl → (execOp a.eval o).run P W = .ok (.value v) W)
 (hm : env.length = m) (h1 : v.oneCell' = true) (hk : TWp P w0 R k L (env ++ [v]) gs) : TWp P w0 R (.calc op ty ev bl (.leaf (.atom (.var m))) 1 k) L env gs := by
 have e : (env ++ [v]).getD m undef = v := by subst hm; simp [List.getD]
 refine fun β => ⟨[v], rfl, ⟨by subst hm; simp, by rw [e]; exact h1⟩, fun o a W h1 h2 h3 h4 _ => ?_, hk β⟩
 simp only [SV.den, Leaf.den, Atom.den, e]
 exact hx o a W h1 h2 h3 h4
theorem tw_calc2 {op : Op} {ty : TypeId} {ev : List (Tmp × SV)} {bl : Mem} {k k' : Tree} (c : Bool)
 (hx : ∀ (o : Oper) (a : Act) (W : World), o.op = op → o.type = ty → (∀ x ∈ ev, a.eval (.tmp x.1) = x.2.den env gs) → Mm w0 W env gs bl → (execOp a.eval o).run P W = .ok (.value (.bool c)) W)
 (ht : c = true → TWp P w0 R k L env gs) (hf : c = false → TWp P w0 R k' L env gs) :
 TWp P w0 R (.calc2 op ty ev bl (.leaf (.atom (.const (.bool true)))) 0 k (.leaf (.atom (.const (.bool false)))) 0 k') L env gs := by
 intro β
 cases c with
 | true => exact .inl ⟨[], rfl, rfl, fun o a W h1 h2 h3 h4 _ => hx o a W h1 h2 h3 h4, by rw [List.append_nil]; exact ht rfl β⟩
 | false => exact .inr ⟨[], rfl, rfl, fun o a W h1 h2 h3 h4 _ => hx o a W h1 h2 h3 h4, by rw [List.append_nil]; exact hf rfl β⟩

theorem run_bin {o : Oper} {a : Act} {op : BinOp} {xt yt : TypeId} {x y : Operand} {kd : IntKind} {m n : Int} {v : Value} (hop : o.op = .binOp op xt x y yt) (hx : a.eval x = .int kd m) (hy : a.eval y = .int kd n) {W : World}
 (hb : (binOp op xt (.int kd m) (.int kd n)).run P W = .ok v W) : (execOp a.eval o).run P W = .ok (.value v) W := by
 have hg : (eqGuard op xt x y (.int kd m) (.int kd n)).run P W = .ok () W := by unfold eqGuard; cases op <;> rfl
 unfold execOp
 simp only [hop, hx, hy, Sem.run_bind, hg, Result.andThen_ok, hb, Sem.run_pure]

theorem tw_bin {op : BinOp} {xt yt ty : TypeId} {x y : Operand} {ev : List (Tmp × SV)} {bl : Mem} {k : Tree} {e : Nat} {kd : IntKind} {m n : Int} {v : Value}
 (hx : opv ev env gs x = some (.int kd m)) (hy : opv ev env gs y = some (.int kd n)) (hb : ∀ W, (binOp op xt (.int kd m) (.int kd n)).run P W = .ok v W)
 (hm : env.length = e) (h1 : v.oneCell' = true) (hk : TWp P w0 R k L (env ++ [v]) gs) : TWp P w0 R (.calc (.binOp op xt x y yt) ty ev bl (.leaf (.atom (.var e))) 1 k) L env gs :=
 tw_calc (fun _ _ W ho _ he _ => run_bin ho (opv_ok hx he) (opv_ok hy he) (hb W)) hm h1 hk
theorem tw_cmp {op : BinOp} {xt yt ty : TypeId} {x y : Operand} {ev : List (Tmp × SV)} {bl : Mem} {k k' : Tree} {kd : IntKind} {m n : Int} (c : Bool)
 (hx : opv ev env gs x = some (.int kd m)) (hy : opv ev env gs y = some (.int kd n)) (hb : ∀ W, (binOp op xt (.int kd m) (.int kd n)).run P W = .ok (.bool c) W)
 (ht : c = true → TWp P w0 R k L env gs) (hf : c = false → TWp P w0 R k' L env gs) :
 TWp P w0 R (.calc2 (.binOp op xt x y yt) ty ev bl (.leaf (.atom (.const (.bool true)))) 0 k (.leaf (.atom (.const (.bool false)))) 0 k') L env gs :=
 tw_calc2 c (fun _ _ W ho _ he _ => run_bin ho (opv_ok hx he) (opv_ok hy he) (hb W)) ht hf

theorem bin_lss (t : TypeId) (kd : IntKind) (m n : Int) (W : World) : (binOp .lss t (.int kd m) (.int kd n)).run P W = .ok (.bool (decide (m < n))) W := by simp [binOp, Op.intCmp]
theorem bin_leq (t : TypeId) (kd : IntKind) (m n : Int) (W : World) : (binOp .leq t (.int kd m) (.int kd n)).run P W = .ok (.bool (decide (m ≤ n))) W := by simp [binOp, Op.intCmp]
theorem bin_gtr (t : TypeId) (kd : IntKind) (m n : Int) (W : World) : (binOp .gtr t (.int kd m) (.int kd n)).run P W = .ok (.bool (decide (n < m))) W := by simp [binOp, Op.intCmp]
theorem bin_geq (t : TypeId) (kd : IntKind) (m n : Int) (W : World) : (binOp .geq t (.int kd m) (.int kd n)).run P W = .ok (.bool (decide (n ≤ m))) W := by simp [binOp, Op.intCmp]
theorem bin_eql (t : TypeId) (kd : IntKind) (m n : Int) (W : World) : (binOp .eql t (.int kd m) (.int kd n)).run P W = .ok (.bool (decide (m = n))) W := by
 simp [binOp, Op.intCmp]; rfl
theorem bin_neq (t : TypeId) (kd : IntKind) (m n : Int) (W : World) : (binOp .neq t (.int kd m) (.int kd n)).run P W = .ok (.bool (!decide (m = n))) W := by
 simp [binOp, Op.intCmp]; rfl
theorem bin_add (t : TypeId) (kd : IntKind) (m n : Int) (W : World) : (binOp .add t (.int kd m) (.int kd n)).run P W = .ok (.int kd (kd.wrap (m + n))) W := by simp [binOp, Op.intArith]
theorem bin_sub (t : TypeId) (kd : IntKind) (m n : Int) (W : World) : (binOp .sub t (.int kd m) (.int kd n)).run P W = .ok (.int kd (kd.wrap (m - n))) W := by simp [binOp, Op.intArith]
theorem bin_mul (t : TypeId) (kd : IntKind) (m n : Int) (W : World) : (binOp .mul t (.int kd m) (.int kd n)).run P W = .ok (.int kd (kd.wrap (m * n))) W := by simp [binOp, Op.intArith]
theorem bin_quo (t : TypeId) (kd : IntKind) (m n : Int) (hn : n ≠ 0) (W : World) : (binOp .quo t (.int kd m) (.int kd n)).run P W = .ok (.int kd (kd.wrap (m.tdiv n))) W := by simp [binOp, Op.intDiv, hn]
theorem bin_rem (t : TypeId) (kd : IntKind) (m n : Int) (hn : n ≠ 0) (W : World) : (binOp .rem t (.int kd m) (.int kd n)).run P W = .ok (.int kd (m.tmod n)) W := by simp [binOp, Op.intDiv, hn]
theorem i64_in (x : Int) (h : -9223372036854775808 ≤ x ∧ x < 9223372036854775808) : IntKind.i64.wrap x = x := by
 simp only [IntKind.wrap, IntKind.bits, IntKind.signed]
 simp only [Bool.true_and, decide_eq_true_eq, ge_iff_le]
 split <;> omega
theorem bin_add_in (t : TypeId) {m n r : Int} (hr : m + n = r) (h : -9223372036854775808 ≤ r ∧ r < 9223372036854775808) (W : World) : (binOp .add t (.int .i64 m) (.int .i64 n)).run P W = .ok (.int .i64 r) W := by rw [bin_add, hr, i64_in r h]
theorem bin_sub_in (t : TypeId) {m n r : Int} (hr : m - n = r) (h : -9223372036854775808 ≤ r ∧ r < 9223372036854775808) (W : World) : (binOp .sub t (.int .i64 m) (.int .i64 n)).run P W = .ok (.int .i64 r) W := by rw [bin_sub, hr, i64_in r h]
theorem bin_mul_in (t : TypeId) {m n r : Int} (hr : m * n = r) (h : -9223372036854775808 ≤ r ∧ r < 9223372036854775808) (W : World) : (binOp .mul t (.int .i64 m) (.int .i64 n)).run P W = .ok (.int .i64 r) W := by rw [bin_mul, hr, i64_in r h]
theorem bin_quo_in (t : TypeId) {m n : Int} (h0 : 0 ≤ m) (h1 : 0 < n) (h : m < 9223372036854775808) (W : World) : (binOp .quo t (.int .i64 m) (.int .i64 n)).run P W = .ok (.int .i64 (m / n)) W := by
 rw [bin_quo t _ m n (by omega), Int.tdiv_eq_ediv_of_nonneg h0]
 have h2 : 0 ≤ m / n := Int.ediv_nonneg h0 (by omega)
 have h3 : m / n ≤ m := Int.ediv_le_self n h0
 rw [i64_in _ (by omega)]
theorem bin_rem_in (t : TypeId) {m n : Int} (h0 : 0 ≤ m) (h1 : 0 < n) (W : World) : (binOp .rem t (.int .i64 m) (.int .i64 n)).run P W = .ok (.int .i64 (m % n)) W := by
 rw [bin_rem t _ m n (by omega), Int.tmod_eq_emod_of_nonneg h0]

theorem tw_neg {kd : IntKind} {xt ty : TypeId} {x : Operand} {ev : List (Tmp × SV)} {bl : Mem} {k : Tree} {e : Nat} {n r : Int}
 (hx : opv ev env gs x = some (.int kd n)) (hr : kd.wrap (0 - n) = r) (hm : env.length = e) (hk : TWp P w0 R k L (env ++ [.int kd r]) gs) : TWp P w0 R (.calc (.unOp .neg xt x) ty ev bl (.leaf (.atom (.var e))) 1 k) L env gs :=
 tw_calc (fun _ a W ho _ he _ => by unfold execOp; simp only [ho, opv_ok hx he, Op.unary, Op.intArith, hr, Sem.run_bind, Sem.run_pure, Result.andThen_ok]) hm rfl hk
theorem tw_conv {kd kd' : IntKind} {st dt ty : TypeId} {x : Operand} {ev : List (Tmp × SV)} {bl : Mem} {k : Tree} {e : Nat} {n r : Int} {d : TypeDesc}
 (hx : opv ev env gs x = some (.int kd n)) (hs : P.underlying st = some d) (hd : P.underlying dt = some (.int kd')) (hr : kd'.wrap n = r) (hm : env.length = e) (hk : TWp P w0 R k L (env ++ [.int kd' r]) gs) :
 TWp P w0 R (.calc (.convert st dt x) ty ev bl (.leaf (.atom (.var e))) 1 k) L env gs :=
 tw_calc (fun _ a W ho _ he _ => by
  unfold execOp
  simp only [ho, opv_ok hx he, convert, Conv.intToInt, Sem.run_bind, run_underlying hs, run_underlying hd, hr, Sem.run_pure, Result.andThen_ok]) hm rfl hk
theorem tw_xidx {xt ty el : TypeId} {x i : Operand} {ev : List (Tmp × SV)} {bl : Mem} {k : Tree} {e len cap n : Nat} {a : Addr} {kd : IntKind} {m : Int}
 (hx : opv ev env gs x = some (.slice (some a) len cap)) (hi : opv ev env gs i = some (.int kd m)) (hs : tySlc P xt = some el) (hn : tyN P el = some n) (h0 : 0 ≤ m) (h1 : m < (len : Int)) (hm : env.length = e)
 (hk : TWp P w0 R k L (env ++ [.pointer (some (a.add (m.toNat * n)))]) gs) : TWp P w0 R (.calc (.indexAddr xt x i) ty ev bl (.leaf (.atom (.var e))) 1 k) L env gs :=
 tw_calc (fun _ a W ho _ he _ => by
  unfold tySlc at hs
  split at hs
  ·rename_i el' hu
   cases hs
   unfold execOp
   simp only [ho, opv_ok hx he, opv_ok hi he, Instr.indexAt, asIntOf, Sem.run_bind, run_underlying hu, Result.andThen_ok, Sem.run_pure, tyN_run hn, h0, h1, and_self, if_true]
  ·cases hs) hm rfl hk
theorem tw_xload {t ty : TypeId} {x : Operand} {ev : List (Tmp × SV)} {bl : Mem} {k : Tree} {e : Nat} {a : Addr} {v : Value}
 (hx : opv ev env gs x = some (.pointer (some a))) (ht : tyAgg P t = some false) (hc : ∀ W, Below w0.heap.size w0 W → W.cell? a = some v) (h1 : v.oneCell' = true) (hm : env.length = e)
 (hk : TWp P w0 R k L (env ++ [v]) gs) : TWp P w0 R (.calc (.load t x) ty ev bl (.leaf (.atom (.var e))) 1 k) L env gs :=
 tw_calc (fun _ a W ho _ he hW => by
  unfold execOp
  simp only [ho, opv_ok hx he, Instr.loadAt, Instr.sureAddr, Sem.run_bind, Sem.run_pure, Result.andThen_ok, loadVar, tyAgg_run ht, Bool.false_eq_true, if_false, run_load, hc W hW.1.below]) hm h1 hk

theorem run_eqItems_is {d : Nat} {el : TypeId} (hu : P.underlying el = some (.int .i64)) (a b : List Int) (W : World) : ∀ l : List Nat, (∀ i ∈ l, i < a.length ∧ i < b.length) →
 (Op.eqItems (d + 1) el 1 (is a).toArray (is b).toArray l).run P W = .ok (decide (∀ i ∈ l, a.getD i 0 = b.getD i 0)) W
 | [], _ => by simp [Op.eqItems]
 | i :: l, h => by
  have hi := h i (by simp)
  have ih := run_eqItems_is (d := d) hu a b W l fun j hj => h j (List.mem_cons_of_mem _ hj)
  have ag : tyAgg P el = some false := by simp [tyAgg, hu]
  have p1 : ∀ c : List Int, i < c.length → (part el (is c).toArray (i * 1)).run P W = .ok (.int .i64 (c.getD i 0)) W := by
   intro c hc
   unfold part
   simp only [Sem.run_bind, tyAgg_run ag, Result.andThen_ok, Bool.false_eq_true, if_false, Nat.mul_one]
   have : (is c).toArray[i]? = some (.int .i64 (c.getD i 0)) := by
    have := is_get c i hc
    simpa using this
   rw [this]; rfl
  have e1 : (Op.equalIn (d + 1) el (.int .i64 (a.getD i 0)) (.int .i64 (b.getD i 0))).run P W = .ok (a.getD i 0 == b.getD i 0) W := run_equalIn_int W d el .i64 .i64 _ _ hu
  simp only [Op.eqItems, Sem.run_bind, p1 a hi.1, p1 b hi.2, Result.andThen_ok, e1]
  by_cases hab : a.getD i 0 = b.getD i 0
  ·rw [hab]
   simp only [BEq.rfl, Bool.not_true, Bool.false_eq_true, if_false, ih]
   congr 1
   rw [decide_eq_decide]
   constructor
   ·intro h j hj
    rcases List.mem_cons.1 hj with rfl | hj
    ·exact hab
    ·exact h j hj
   ·exact fun h j hj => h j (List.mem_cons_of_mem _ hj)
  ·have : (a.getD i 0 == b.getD i 0) = false := by simpa using hab
   simp only [this, Bool.not_false, if_true, Sem.run_pure]
   congr 1
   simp [hab]
   intro h1
   exact absurd h1 (by simpa using hab)
theorem tw_loop {σ : Type} {init : List Leaf} {ks : List Kd} {body : Tree} (I : σ → List Value → Prop) (μ : σ → Nat) (s0 : σ) (h0 : I s0 (init.map (Leaf.den env gs)))
 (step : ∀ (s : σ) (vs : List Value), VarsOK ks vs → I s vs → TWp P w0 R body (L ++ [fun us => ∃ s', I s' us ∧ μ s' < μ s]) (env ++ vs) gs) : TWp P w0 R (.loop init ks body) L env gs :=
 fun β => ⟨σ, fun s vs _ => I s vs, μ, s0, h0, fun s vs β' hv hI => by
  have := step s vs hv hI β'
  rw [List.map_append] at this
  exact this⟩
theorem tw_countS {σ : Type} {init : List Leaf} {ks : List Kd} {body : Tree} (N : Nat) (f : Nat → σ → List Value) (s0 : σ) (h0 : init.map (Leaf.den env gs) = f 0 s0)
 (step : ∀ (k : Nat) (s : σ) (p : List Value → Prop), k ≤ N → VarsOK ks (f k s) → (∀ j s', k < j → j ≤ N → p (f j s')) → TWp P w0 R body (L ++ [p]) (env ++ f k s) gs) : TWp P w0 R (.loop init ks body) L env gs := by
 refine tw_loop (σ := Nat × σ) (fun s vs => s.1 ≤ N ∧ vs = f s.1 s.2) (fun s => N - s.1) (0, s0) ⟨Nat.zero_le _, h0⟩ fun ⟨k, s⟩ vs hv ⟨hk, hf⟩ => ?_
 simp only at hf hk
 subst hf
 refine step k s _ hk hv fun j s' hj hjN => ⟨(j, s'), ⟨hjN, rfl⟩, ?_⟩
 simp only
 omega
theorem tw_countI {init : List Leaf} {ks : List Kd} {body : Tree} (N : Nat) (I : Nat → List Value → Prop) (h0 : I 0 (init.map (Leaf.den env gs)))
 (step : ∀ (k : Nat) (vs : List Value) (p : List Value → Prop), k ≤ N → VarsOK ks vs → I k vs → (∀ j us, k < j → j ≤ N → I j us → p us) → TWp P w0 R body (L ++ [p]) (env ++ vs) gs) : TWp P w0 R (.loop init ks body) L env gs := by
 refine tw_loop (σ := Nat) (fun k vs => k ≤ N ∧ I k vs) (fun k => N - k) 0 ⟨Nat.zero_le _, h0⟩ fun k vs hv ⟨hk, hI⟩ => step k vs _ hk hv hI fun j us hj hjN hju => ⟨j, ⟨hjN, hju⟩, by omega⟩
theorem tw_count {init : List Leaf} {ks : List Kd} {body : Tree} (N : Nat) (f : Nat → List Value) (h0 : init.map (Leaf.den env gs) = f 0)
 (step : ∀ (k : Nat) (p : List Value → Prop), k ≤ N → VarsOK ks (f k) → (∀ j, k < j → j ≤ N → p (f j)) → TWp P w0 R body (L ++ [p]) (env ++ f k) gs) : TWp P w0 R (.loop init ks body) L env gs :=
 tw_countS (σ := Unit) N (fun k _ => f k) () h0 fun k _ p hk hv hp => step k p hk hv fun j h1 h2 => hp j () h1 h2

theorem tw_app {kc : Option Nat} {new : List Seg} {sz : Nat} {t : Tree} {cs : List Value} (hc : (match kc with | some k => cellsAt env k | none => []) ++ catS env gs new = cs) (hl : cs.length ≤ 1000000)
 (ht : ∀ v : Value, v.oneCell' = true → TWp P w0 R t L (env ++ [v, AG cs]) gs) : TWp P w0 R (.app kc new sz t) L env gs := by
 subst hc; exact fun β => ⟨hl, fun v hv => ht v hv.one β⟩
theorem tw_again {j : Nat} {vals : List Leaf} {p : List Value → Prop} {us : List Value} (hj : L[j]? = some p) (hv : vals.map (Leaf.den env gs) = us) (hp : p us) : TWp P w0 R (.again j vals) L env gs := fun _ => ⟨fun us _ => p us, by simp [hj], by rw [hv]; exact hp⟩
theorem tw_bound {k cnt : Nat} {t : Tree} {kd : IntKind} {m : Int} (hk : env[k]? = some (.int kd m)) (h0 : 0 ≤ m) (h1 : m < (cnt : Int)) (ht : TWp P w0 R t L env gs) : TWp P w0 R (.bound k cnt t) L env gs := fun β => ⟨kd, m, hk, h0, h1, ht β⟩
theorem tw_ldi {l : List Seg} {off k sc n : Nat} {t : Tree} {v : Value} (j : Nat) (hj : off + intN (env.getD k undef) * sc = j) (hv : (catS env gs l)[j]? = some v) (ht : TWp P w0 R t L (env ++ [v]) gs) : TWp P w0 R (.ldi l off k sc n false t) L env gs := by
 subst hj
 intro β
 show (if false = true then _ else _)
 rw [if_neg (by simp)]
 exact ⟨v, hv, ht β⟩
theorem tw_sti {l new : List Seg} {off k sc n : Nat} {t : Tree} {cs : List Value} (j : Nat) (hj : off + intN (env.getD k undef) * sc = j) (hl : j + n ≤ (catS env gs l).length)
 (hc : (catS env gs l).take j ++ catS env gs new ++ (catS env gs l).drop (j + n) = cs) (ht : TWp P w0 R t L (env ++ [AG cs]) gs) : TWp P w0 R (.sti l off k sc n new t) L env gs := by
 subst hj; subst hc
 exact fun β => ⟨hl, ht β⟩
theorem get_is {l : List Int} {i : Nat} (h : i < l.length) : (is l)[i]? = some (.int .i64 (l.getD i 0)) := by simp [is, List.getD, h]
theorem set_is {l : List Int} {i : Nat} {v : Int} (h : i < l.length) : (is l).take i ++ [Value.int .i64 v] ++ (is l).drop (i + 1) = is (l.set i v) := by
 have e : is (l.set i v) = (is l).set i (.int .i64 v) := by simp only [is, List.map_set]
 rw [e, List.set_eq_take_append_cons_drop, if_pos (by simpa using h)]
 simp
theorem intN_nat (kd : IntKind) (k : Nat) : intN (.int kd (k : Int)) = k := by simp [intN]

theorem tw_ret {bl : Mem} {v : SV} (h : ∀ W, Mm w0 W env gs bl → R (.returned (v.den env gs)) W) : TWp P w0 R (.ret bl v) L env gs := fun _ W hW _ => h W hW
theorem tw_retV {bl : Mem} {v : SV} {x : Value} (hR : R = OutV x w0) (h : v.den env gs = x) : TWp P w0 R (.ret bl v) L env gs := fun _ W hW _ => by rw [hR, h]; exact ⟨rfl, hW.1.below⟩
end
end Go.Proofs.Ytdpongijmmdnoaa
