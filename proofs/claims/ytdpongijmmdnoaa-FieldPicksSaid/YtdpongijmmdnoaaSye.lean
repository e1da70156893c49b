/- The trees are sound: loops' heads. Over any program. -/
import Derived.Test.YtdpongijmmdnoaaSyd
namespace Go.Proofs.Ytdpongijmmdnoaa
open Go.RowKit

theorem all2_eq {α : Type} {f : α → α → Bool} : ∀ {l m : List α}, (∀ x ∈ l, ∀ y, f x y = true → x = y) → all2 f l m = true → l = m
  | [], [], _, _ => rfl
  | x :: l, y :: m, h, e => by
    simp only [all2, Bool.and_eq_true] at e
    rw [h x (by simp) y e.1, all2_eq (fun z hz => h z (List.mem_cons_of_mem _ hz)) e.2]
  | [], _ :: _, _, e => by cases e
  | _ :: _, [], _, e => by cases e
theorem vsame_eq {v u : Value} (h : vsame v u = true) : v = u := by
  unfold vsame at h
  split at h
  · simp at h; obtain ⟨rfl, rfl⟩ := h; rfl
  · simp at h; subst h; rfl
  · rfl
  · simp at h; obtain ⟨rfl, rfl⟩ := h; rfl
  · cases h
theorem Atom.same_eq {a b : Atom} (h : a.same b = true) : a = b := by
  unfold Atom.same at h
  split at h
  · rw [vsame_eq h]
  · simp at h; subst h; rfl
  · simp at h; obtain ⟨rfl, rfl⟩ := h; rfl
  · simp at h; obtain ⟨rfl, rfl⟩ := h; rfl
  · simp at h; obtain ⟨⟨⟨rfl, rfl⟩, rfl⟩, rfl⟩ := h; rfl
  · simp at h; obtain ⟨rfl, rfl⟩ := h; rfl
  · simp at h; obtain ⟨⟨⟨rfl, rfl⟩, rfl⟩, rfl⟩ := h; rfl
  · simp at h; obtain ⟨⟨rfl, rfl⟩, rfl⟩ := h; rfl
  · cases h
theorem Seg.same_eq {a b : Seg} (h : a.same b = true) : a = b := by
  unfold Seg.same at h
  split at h
  · simp at h; obtain ⟨rfl, rfl⟩ := h; rfl
  · simp at h; obtain ⟨⟨rfl, rfl⟩, rfl⟩ := h; rfl
  · rw [all2_eq (fun x _ y hxy => vsame_eq hxy) h]
  · rw [Atom.same_eq h]
  · simp at h; subst h; rfl
  · simp at h; subst h; rfl
  · cases h
theorem Leaf.same_eq {a b : Leaf} (h : a.same b = true) : a = b := by
  unfold Leaf.same at h
  split at h
  · rw [Atom.same_eq h]
  · rw [all2_eq (fun x _ y hxy => Seg.same_eq hxy) h]
  · cases h
theorem SV.same_eq {a b : SV} (h : a.same b = true) : a = b := by
  unfold SV.same at h
  split at h
  · rw [Leaf.same_eq h]
  · rw [all2_eq (fun x _ y hxy => Leaf.same_eq hxy) h]
  · cases h

theorem VarsOK.nil : VarsOK [] [] := ⟨rfl, fun j k v h => by simp at h⟩
theorem VarsOK.cons {k : Kd} {v : Value} {ks : List Kd} {vs : List Value} (h : KindOK v k) (h' : VarsOK ks vs) : VarsOK (k :: ks) (v :: vs) := by
  refine ⟨by simp [h'.1], fun j k' v' hk hv => ?_⟩
  cases j with
  | zero => simp at hk hv; subst hk; subst hv; exact h
  | succ j => exact h'.2 j k' v' (by simpa using hk) (by simpa using hv)
theorem VarsOK.app : ∀ {ks : List Kd} {vs : List Value} {ks' : List Kd} {vs' : List Value}, VarsOK ks vs → VarsOK ks' vs' → VarsOK (ks ++ ks') (vs ++ vs')
  | [], [], _, _, _, h' => h'
  | k :: ks, v :: vs, ks', vs', h, h' => by
    refine VarsOK.cons (h.2 0 k v rfl rfl) (VarsOK.app ⟨by simpa using h.1, fun j a b ha hb => h.2 (j + 1) a b (by simpa using ha) (by simpa using hb)⟩ h')
  | [], _ :: _, _, _, h, _ => by have := h.1; simp at this
  | _ :: _, [], _, _, h, _ => by have := h.1; simp at this

section
variable {P : Program} {w0 : World} {env' E env0 : List Value} {gs' gs0 G : List Nat} {a : Act} {w : World}

theorem agg_at {k n : Nat} {v : Value} (he : E[k]? = some v) (hk : KindOK v (.agg n)) : AggN E k n ∧ v = .agg (cellsAt E k).toArray := by
  obtain ⟨cs, rfl, h1, h2⟩ := hk
  exact ⟨⟨cs, he, h1, h2⟩, by simp [cellsAt, List.getD, he, Value.cells]⟩

theorem curP_ok {l : List Seg} (ho : ∀ s ∈ l, s.OK env' gs') : ∀ (pcs : List Kd) (off : Nat) (ls : List Leaf), curP l off pcs = some ls →
    VarsOK pcs (ls.map (Leaf.den env' gs')) ∧ ∀ k, (∀ (j : Nat) v, (ls.map (Leaf.den env' gs'))[j]? = some v → E[k + j]? = some v) →
      flat E G (pcsS k pcs) = (flat env' gs' l).drop off ∧ ∀ s ∈ pcsS k pcs, s.OK E G
  | [], off, ls, h => by
    simp only [curP] at h
    split at h
    · rename_i hc
      cases h
      simp only [Bool.and_eq_true, beq_iff_eq, List.all_eq_true] at hc
      refine ⟨VarsOK.nil, fun k _ => ⟨?_, by simp [pcsS]⟩⟩
      rw [List.drop_of_length_le (by rw [flat_len hc.2 ho]; omega)]
      simp [pcsS, flat]
    · cases h
  | .agg n :: r, off, ls, h => by
    simp only [curP] at h
    obtain ⟨s, hs, h⟩ := Option.bind_eq_some_iff.1 h
    obtain ⟨ls', hls, rfl⟩ := Option.map_eq_some_iff.1 h
    obtain ⟨c1, c2, c3⟩ := cutS_ok l off n s hs ho
    obtain ⟨r1, r2⟩ := curP_ok ho r (off + n) ls' hls
    have hlen : (catS env' gs' s).length = n := by rw [catS_flat, c1]; simp; omega
    have hk : KindOK (Leaf.den env' gs' (.agg s)) (.agg n) := ⟨catS env' gs' s, rfl, hlen, by rw [catS_flat]; exact flat_ones (fun x hx => (c3 x hx).1) (fun x hx => Seg.known_clean (c3 x hx).2)⟩
    refine ⟨VarsOK.cons hk r1, fun k he => ?_⟩
    have h0 := he 0 (Leaf.den env' gs' (.agg s)) rfl
    obtain ⟨g1, g2⟩ := agg_at h0 hk
    obtain ⟨q1, q2⟩ := r2 (k + 1) fun j v hv => by
      have := he (j + 1) v (by simpa using hv)
      rw [show k + 1 + j = k + (j + 1) from by omega]; exact this
    have e1 : cellsAt E (k + 0) = catS env' gs' s := by
      simp only [Leaf.den, Value.agg.injEq] at g2
      have := congrArg Array.toList g2
      simpa using this.symm
    refine ⟨?_, ?_⟩
    · simp only [pcsS, flat_cons, q1, Seg.den]
      rw [← Nat.add_zero k, e1, catS_flat, c1]
      rw [← List.drop_drop]
      exact List.take_append_drop n _
    · intro x hx
      simp only [pcsS] at hx
      rcases List.mem_cons.1 hx with rfl | hx
      · exact g1
      · exact q2 x hx
  | .row :: r, off, ls, h => by simp only [curP] at h; cases h
  | .one :: r, off, ls, h => by
    simp only [curP] at h
    obtain ⟨s, hs, h⟩ := Option.bind_eq_some_iff.1 h
    obtain ⟨x, hx, h⟩ := Option.bind_eq_some_iff.1 h
    obtain ⟨ls', hls, rfl⟩ := Option.map_eq_some_iff.1 h
    obtain ⟨c1, c2⟩ := cellS_ok hs hx ho
    obtain ⟨r1, r2⟩ := curP_ok ho r (off + 1) ls' hls
    have hk : KindOK (Leaf.den env' gs' (.atom x)) .one := Atom.one c2
    refine ⟨VarsOK.cons hk r1, fun k he => ?_⟩
    have h0 := he 0 (Leaf.den env' gs' (.atom x)) rfl
    have hlt : k < E.length := by simpa using (List.getElem?_eq_some_iff.1 h0).1
    have e0 : E.getD k undef = x.den env' gs' := by simp only [List.getD]; rw [← Nat.add_zero k, h0]; rfl
    obtain ⟨q1, q2⟩ := r2 (k + 1) fun j v hv => by
      have := he (j + 1) v (by simpa using hv)
      rw [show k + 1 + j = k + (j + 1) from by omega]; exact this
    refine ⟨?_, ?_⟩
    · simp only [pcsS, flat_cons, q1]
      have e3 : Seg.den E G (.one (.var k)) = [x.den env' gs'] := by rw [← e0]; rfl
      rw [e3]
      obtain ⟨hl, hg⟩ := List.getElem?_eq_some_iff.1 c1
      rw [← hg]
      exact List.getElem_cons_drop hl
    · intro y hy
      simp only [pcsS] at hy
      rcases List.mem_cons.1 hy with rfl | hy
      · exact ⟨hlt, by rw [e0]; exact hk⟩
      · exact q2 y hy

/-- what an item holds, told by the variables from k on -/
def HeldI (E : List Value) (G : List Nat) (env' : List Value) (gs' : List Nat) (st' : Sym) (a : Act) (k : Nat) : Item → Prop
  | .slot t pcs => (slotSV k pcs).den E G = a.tmps.getD t undef ∧ (slotSV k pcs).OK E G
  | .blk b pcs => ∃ blk, st'.blocks[b]? = some blk ∧ flat E G (pcsS k pcs) = flat env' gs' blk.1 ∧ ∀ s ∈ pcsS k pcs, s.OK E G
  | .row t T sz => ∃ v cs, E[k]? = some v ∧ E[k + 1]? = some (.agg cs.toArray) ∧ (∀ x ∈ cs, x.oneCell' = true) ∧ v.oneCell' = true ∧ a.tmps.getD t undef = v ∧
      ((v = .slice none 0 0 ∧ cs = []) ∨ ∃ r ∈ st'.rows, (∃ kv, st'.slots.getD t .any = .leaf (.atom (.var kv)) ∧ r.kv = kv) ∧ r.T = T ∧ r.sz = sz ∧ env'[r.kv]? = some v ∧ env'[r.kc]? = some (.agg cs.toArray))

theorem slotSV_agg {pcs : List Kd} (h : pcs ≠ [.one]) (k : Nat) : slotSV k pcs = .leaf (.agg (pcsS k pcs)) := by
  unfold slotSV
  split
  · exact absurd rfl h
  · rfl

theorem curI_ok {st' : Sym} (hd : Den w0 st' env' gs' a w) {i : Item} {ls : List Leaf} (h : curI st' i = some ls) :
    VarsOK i.pcs (ls.map (Leaf.den env' gs')) ∧ ∀ k, (∀ (j : Nat) v, (ls.map (Leaf.den env' gs'))[j]? = some v → E[k + j]? = some v) → HeldI E G env' gs' st' a k i := by
  cases i with
  | slot t pcs =>
    have e : opd st' (.tmp t) = st'.slots.getD t .any := rfl
    simp only [curI] at h
    split at h
    · rename_i x hx
      cases h
      rw [← e] at hx
      obtain ⟨e1, ok⟩ := hd.opd hx (by simp)
      have hk : KindOK (Leaf.den env' gs' (.atom x)) .one := Atom.one ok
      refine ⟨VarsOK.cons hk VarsOK.nil, fun k he => ?_⟩
      have h0 := he 0 (Leaf.den env' gs' (.atom x)) rfl
      have hlt : k < E.length := by simpa using (List.getElem?_eq_some_iff.1 h0).1
      have e0 : E.getD k undef = x.den env' gs' := by simp only [List.getD]; rw [← Nat.add_zero k, h0]; rfl
      exact ⟨by simp only [slotSV, SV.den, Leaf.den, Atom.den, e0]; exact e1.symm, hlt, by rw [e0]; exact hk⟩
    · cases h
    · rename_i pcs _ _ l hne hx
      rw [← e] at hx
      obtain ⟨e1, ok⟩ := hd.opd hx (by simp)
      obtain ⟨c1, c2⟩ := curP_ok (E := E) (G := G) ok pcs 0 ls h
      refine ⟨c1, fun k he => ?_⟩
      obtain ⟨q1, q2⟩ := c2 k he
      have hp : pcs ≠ [.one] := fun hp => hne hp
      refine ⟨?_, by rw [slotSV_agg hp]; exact q2⟩
      rw [slotSV_agg hp]
      have e2 : a.eval (.tmp t) = a.tmps.getD t undef := rfl
      rw [← e2, e1]
      simp only [SV.den, Leaf.den, catS_flat, q1, List.drop_zero]
    · cases h
  | blk b pcs =>
    simp only [curI] at h
    obtain ⟨blk, hb, h⟩ := Option.bind_eq_some_iff.1 h
    obtain ⟨c1, c2⟩ := curP_ok (E := E) (G := G) (hd.segs hb) pcs 0 ls h
    exact ⟨c1, fun k he => ⟨blk, hb, by have := (c2 k he).1; simpa using this, (c2 k he).2⟩⟩
  | row t T sz =>
    have e : opd st' (.tmp t) = st'.slots.getD t .any := rfl
    simp only [curI] at h
    split at h
    · rename_i hx
      cases h
      rw [← e] at hx
      obtain ⟨e1, ok⟩ := hd.opd hx (by simp)
      refine ⟨VarsOK.cons (v := .slice none 0 0) rfl (VarsOK.cons (v := .agg #[]) ⟨[], rfl, by simp⟩ VarsOK.nil), fun k he => ?_⟩
      refine ⟨.slice none 0 0, [], he 0 _ rfl, he 1 _ rfl, by simp, rfl, ?_, .inl ⟨rfl, rfl⟩⟩
      exact e1
    · rename_i kv hx
      have hx' := hx
      rw [← e] at hx
      obtain ⟨e1, ok⟩ := hd.opd hx (by simp)
      obtain ⟨r, hr, h⟩ := Option.bind_eq_some_iff.1 h
      split at h
      · rename_i hc
        cases h
        simp only [Bool.and_eq_true, beq_iff_eq] at hc
        have hrm := List.mem_of_find?_eq_some hr
        have hrk : r.kv = kv := by have := List.find?_some hr; simpa using this
        obtain ⟨v, cs, m, h1, h2, h3, h4⟩ := hd.rws.own r hrm
        have ev : env'.getD kv undef = v := by rw [← hrk]; simp [List.getD, h1]
        have ec : cellsAt env' r.kc = cs := by simp [cellsAt, List.getD, h2, Value.cells]
        simp only [SV.den, Leaf.den, Atom.den, ev] at e1
        have hv1 : v.oneCell' = true := by rw [← ev]; exact ok.2
        have d1 : Leaf.den env' gs' (.atom (.var kv)) = v := ev
        have d2 : Leaf.den env' gs' (.agg [.rest r.kc]) = .agg cs.toArray := by simp only [Leaf.den, catS, Seg.den, ec]
        refine ⟨VarsOK.cons (by rw [d1]; exact hv1) (VarsOK.cons (by rw [d2]; exact ⟨cs, rfl, h3⟩) VarsOK.nil), fun k he => ?_⟩
        exact ⟨v, cs, he 0 v (by rw [← d1]; rfl), he 1 _ (by rw [← d2]; rfl), h3, hv1, e1, .inr ⟨r, hrm, ⟨kv, hx', hrk⟩, hc.1, hc.2, h1, h2⟩⟩
      · cases h
    · cases h

def HeldIs (E : List Value) (G : List Nat) (env' : List Value) (gs' : List Nat) (st' : Sym) (a : Act) : Nat → List Item → Prop
  | _, [] => True
  | k, i :: r => HeldI E G env' gs' st' a k i ∧ HeldIs E G env' gs' st' a (k + i.pcs.length) r

theorem curIs_ok {st' : Sym} (hd : Den w0 st' env' gs' a w) : ∀ {items : List Item} {ls : List Leaf}, curIs st' items = some ls →
    VarsOK (ksOf items) (ls.map (Leaf.den env' gs')) ∧ ∀ k, (∀ (j : Nat) v, (ls.map (Leaf.den env' gs'))[j]? = some v → E[k + j]? = some v) → HeldIs E G env' gs' st' a k items
  | [], ls, h => by simp only [curIs] at h; cases h; exact ⟨VarsOK.nil, fun _ _ => trivial⟩
  | i :: r, ls, h => by
    simp only [curIs] at h
    obtain ⟨x, hx, h⟩ := Option.bind_eq_some_iff.1 h
    obtain ⟨y, hy, rfl⟩ := Option.map_eq_some_iff.1 h
    obtain ⟨c1, c2⟩ := curI_ok (E := E) (G := G) hd hx
    obtain ⟨d1, d2⟩ := curIs_ok hd hy
    have hl : (x.map (Leaf.den env' gs')).length = i.pcs.length := c1.1
    refine ⟨by rw [List.map_append]; exact VarsOK.app c1 d1, fun k he => ⟨c2 k fun j v hv => he j v ?_, d2 (k + i.pcs.length) fun j v hv => ?_⟩⟩
    · rw [List.map_append, List.getElem?_append_left (List.getElem?_eq_some_iff.1 hv).1]; exact hv
    · have := he (i.pcs.length + j) v (by rw [List.map_append, List.getElem?_append_right (by omega), hl, Nat.add_sub_cancel_left]; exact hv)
      rw [← Nat.add_assoc] at this; exact this

theorem headIs_slot {head : Sym} {st' : Sym} {t : Tmp} : ∀ {items : List Item} {k : Nat}, headIs head k items = true → HeldIs E G env' gs' st' a k items → isSlot items t = true →
    ∃ x, head.slots.getD t .any = x ∧ x.den E G = a.tmps.getD t undef ∧ x.OK E G
  | [], _, _, _, h => by cases h
  | i :: r, k, h1, h2, h3 => by
    simp only [headIs, Bool.and_eq_true] at h1
    by_cases hi : isSlot r t = true
    · exact headIs_slot h1.2 h2.2 hi
    · simp only [isSlot, List.any_cons, Bool.or_eq_true] at h3
      have h4 := h3.resolve_right hi
      cases i with
      | slot u pcs =>
        simp only [beq_iff_eq] at h4
        subst h4
        exact ⟨slotSV k pcs, SV.same_eq h1.1, h2.1⟩
      | blk b pcs => cases h4
      | row u T sz =>
        simp only [beq_iff_eq] at h4
        subst h4
        obtain ⟨v, cs, q1, _, _, q4, q5, _⟩ := h2.1
        have e : E.getD k undef = v := by simp [List.getD, q1]
        exact ⟨.leaf (.atom (.var k)), SV.same_eq h1.1, by simp only [SV.den, Leaf.den, Atom.den, e]; exact q5.symm, (List.getElem?_eq_some_iff.1 q1).1, by rw [e]; exact q4⟩
theorem headIs_blk {head : Sym} {st' : Sym} {b : Nat} : ∀ {items : List Item} {k : Nat}, headIs head k items = true → HeldIs E G env' gs' st' a k items → isBlk items b = true →
    ∃ x y, head.blocks[b]? = some x ∧ st'.blocks[b]? = some y ∧ flat E G x.1 = flat env' gs' y.1 ∧ ∀ s ∈ x.1, s.OK E G
  | [], _, _, _, h => by cases h
  | i :: r, k, h1, h2, h3 => by
    simp only [headIs, Bool.and_eq_true] at h1
    by_cases hi : isBlk r b = true
    · exact headIs_blk h1.2 h2.2 hi
    · simp only [isBlk, List.any_cons, Bool.or_eq_true] at h3
      have h4 := h3.resolve_right hi
      cases i with
      | slot u pcs => cases h4
      | row u T sz => cases h4
      | blk c pcs =>
        simp only [beq_iff_eq] at h4
        subst h4
        obtain ⟨y, hy, q1, q2⟩ := h2.1
        have h5 := h1.1
        simp only [headI] at h5
        cases hx : head.blocks[c]? with
        | none => rw [hx] at h5; cases h5
        | some x =>
          rw [hx] at h5
          have e := all2_eq (fun s _ u hsu => Seg.same_eq hsu) (show all2 Seg.same x.1 (pcsS k pcs) = true from h5)
          exact ⟨x, y, rfl, hy, by rw [e]; exact q1, by rw [e]; exact q2⟩

theorem St.take {bs : List (Nat × List Value × TypeId)} (h : St w0 w bs) (n : Nat) : St w0 w (bs.take n) :=
  ⟨h.below, fun x hx => h.own x (List.mem_of_mem_take hx), h.apart.sublist (List.take_sublist _ _)⟩

/-- the rows of the head -/
theorem rowsI_ok {st' : Sym} (hd : Den w0 st' env' gs' a w) (hg : ∀ g ∈ G, g ∈ gs') : ∀ {items : List Item} {k : Nat}, HeldIs E G env' gs' st' a k items → distinct (rowKs st' items) = true →
    RowsOK w0 w E G (rowsI k items) ∧ (∀ r ∈ rowsI k items, ∀ v g, E[r.kv]? = some v → v.ownBlock = some g → ∃ q ∈ st'.rows, q.kv ∈ rowKs st' items ∧ env'[q.kv]? = some v)
  | [], _, _, _ => ⟨⟨(by intro r hr; cases hr), (by intro r hr; cases hr), List.Pairwise.nil⟩, (by intro r hr; cases hr)⟩
  | .slot t pcs :: r, k, h, hdi => by
    obtain ⟨r1, r2⟩ := rowsI_ok hd hg h.2 hdi
    exact ⟨r1, r2⟩
  | .blk t pcs :: r, k, h, hdi => by
    obtain ⟨r1, r2⟩ := rowsI_ok hd hg h.2 hdi
    exact ⟨r1, r2⟩
  | .row t T sz :: r, k, h, hdi => by
    simp only [rowKs] at hdi
    obtain ⟨v, cs, q1, q2, q3, q4, q5, q6⟩ := h.1
    have hdi2 : distinct (rowKs st' r) = true := by
      split at hdi
      · simp only [List.singleton_append, distinct, Bool.and_eq_true] at hdi; exact hdi.2
      · exact hdi
    obtain ⟨r1, r2⟩ := rowsI_ok hd hg h.2 hdi2
    have head : RowIn w0 w E ⟨k, k + 1, T, sz⟩ ∧ (∀ g, v.ownBlock = some g → (∃ q ∈ st'.rows, (∃ kv, st'.slots.getD t .any = .leaf (.atom (.var kv)) ∧ q.kv = kv) ∧ env'[q.kv]? = some v)) := by
      rcases q6 with ⟨rfl, rfl⟩ | ⟨q, hq, hk, rfl, rfl, e1, e2⟩
      · exact ⟨⟨_, [], 0, q1, q2, q3, World.ownsRow_nil _ _ _ _⟩, fun g hg => by simp [Value.ownBlock] at hg⟩
      · obtain ⟨v', cs', m, h1, h2, h3, h4⟩ := hd.rws.own q hq
        rw [e1] at h1; cases h1
        rw [e2] at h2
        have ecs : cs = cs' := by
          simp only [Option.some.injEq, Value.agg.injEq] at h2
          have := congrArg Array.toList h2
          simpa using this
        subst ecs
        exact ⟨⟨v, cs, m, q1, q2, q3, h4⟩, fun g hg => ⟨q, hq, hk, e1⟩⟩
    refine ⟨⟨fun s hs => ?_, fun s hs u g hu hg2 => ?_, ?_⟩, fun s hs u g hu hg2 => ?_⟩
    · rcases List.mem_cons.1 hs with rfl | hs
      · exact head.1
      · exact r1.own s hs
    · rcases List.mem_cons.1 hs with rfl | hs
      · rw [q1] at hu; cases hu
        obtain ⟨q, hq, _, e⟩ := head.2 g hg2
        exact fun hx => hd.rws.gs q hq v g e hg2 (hg g hx)
      · exact r1.gs s hs u g hu hg2
    · refine List.pairwise_cons.2 ⟨fun s hs u u' g hu hu' hg1 hg2 => ?_, r1.pw⟩
      rw [q1] at hu; cases hu
      obtain ⟨q, hq, ⟨kv, hkv, hqk⟩, e⟩ := head.2 g hg1
      obtain ⟨q', hq', hin, e'⟩ := r2 s hs u' g hu' hg2
      rw [hkv] at hdi
      simp only [List.singleton_append, distinct, Bool.and_eq_true, Bool.not_eq_true', List.contains_eq_mem, decide_eq_false_iff_not] at hdi
      have hne : q ≠ q' := fun hh => hdi.1 (by rw [← hqk, hh]; exact hin)
      have sym : ∀ (l : List RowS), l.Pairwise (fun r s => ∀ v u g, env'[r.kv]? = some v → env'[s.kv]? = some u → v.ownBlock = some g → u.ownBlock ≠ some g) → q ∈ l → q' ∈ l → False := by
        intro l
        induction l with
        | nil => intro _ hr; cases hr
        | cons y l ih =>
          intro hp hr hs
          obtain ⟨p1, p2⟩ := List.pairwise_cons.1 hp
          rcases List.mem_cons.1 hr with rfl | hr2
          · rcases List.mem_cons.1 hs with rfl | hs2
            · exact hne rfl
            · exact p1 q' hs2 v u' g e e' hg1 hg2
          · rcases List.mem_cons.1 hs with rfl | hs2
            · exact p1 q hr2 u' v g e' e hg2 hg1
            · exact ih p2 hr2 hs2
      exact sym _ hd.rws.pw hq hq'
    · simp only [rowKs]
      rcases List.mem_cons.1 hs with rfl | hs
      · rw [q1] at hu; cases hu
        obtain ⟨q, hq, ⟨kv, hkv, hqk⟩, e⟩ := head.2 g hg2
        exact ⟨q, hq, by rw [hkv, hqk]; simp, e⟩
      · obtain ⟨q, hq, hin, e⟩ := r2 s hs u g hu hg2
        exact ⟨q, hq, List.mem_append_right _ hin, e⟩

theorem fits_ok {head st' : Sym} {items : List Item} {k0 : Nat} {ls : List Leaf} (hf : fits head st' items k0 = some ls) (hd : Den w0 st' env' gs' a w) (he : env0 <+: env') (hg : gs0 <+: gs') (hk : env0.length = k0)
    (hgl : gs0.length = head.blocks.length) (hn : head.n = k0 + (ksOf items).length)
    (okS : ∀ (t : Nat) x, head.slots[t]? = some x → x ≠ .any → isSlot items t = false → x.OK env0 gs0)
    (okB : ∀ (b : Nat) x, head.blocks[b]? = some x → isBlk items b = false → ∀ s ∈ x.1, s.OK env0 gs0) :
    VarsOK (ksOf items) (ls.map (Leaf.den env' gs')) ∧ Den w0 head (env0 ++ ls.map (Leaf.den env' gs')) gs0 a w := by
  unfold fits at hf
  split at hf
  · rename_i hc
    simp only [Bool.and_eq_true, List.all_eq_true, List.mem_range, beq_iff_eq, Bool.or_eq_true] at hc
    obtain ⟨⟨⟨⟨⟨c1, cr⟩, cd⟩, c2⟩, c3⟩, c4⟩ := hc
    have cr' : head.rows = rowsI k0 items := of_decide_eq_true cr
    obtain ⟨v1, v2⟩ := curIs_ok (E := env0 ++ ls.map (Leaf.den env' gs')) (G := gs0) hd hf
    have hH := v2 k0 fun j v hv => by
      rw [List.getElem?_append_right (by omega), hk, Nat.add_sub_cancel_left]; exact hv
    refine ⟨v1, ?_⟩
    have hpE : env0 <+: env0 ++ ls.map (Leaf.den env' gs') := List.prefix_append _ _
    have hpG : gs0 <+: gs0 := List.prefix_refl _
    -- a block of the head, against the one at hand
    have blkEq : ∀ (b : Nat) x, head.blocks[b]? = some x → ∃ y, st'.blocks[b]? = some y ∧ x.2 = y.2 ∧ flat (env0 ++ ls.map (Leaf.den env' gs')) gs0 x.1 = flat env' gs' y.1 ∧ ∀ s ∈ x.1, s.OK (env0 ++ ls.map (Leaf.den env' gs')) gs0 := by
      intro b x hx
      have h4 := c4 b (List.getElem?_eq_some_iff.1 hx).1
      rw [hx] at h4
      cases hy : st'.blocks[b]? with
      | none => rw [hy] at h4; simp at h4
      | some y =>
        rw [hy] at h4
        simp only [Bool.and_eq_true, beq_iff_eq, Bool.or_eq_true] at h4
        obtain ⟨h5, h6⟩ := h4
        refine ⟨y, rfl, h5, ?_⟩
        by_cases hi : isBlk items b = true
        · obtain ⟨x', y', hx', hy', q1, q2⟩ := headIs_blk c1 hH hi
          rw [hx] at hx'; cases hx'
          rw [hy] at hy'; cases hy'
          exact ⟨q1, q2⟩
        · have e := all2_eq (fun s _ u hsu => Seg.same_eq hsu) (h6.resolve_left hi)
          have ok := okB b x hx (by simpa using hi)
          obtain ⟨p1, p2⟩ := flat_pre hpE hpG ok
          obtain ⟨_, p4⟩ := flat_pre he hg ok
          exact ⟨by rw [p2, ← p4, e], p1⟩
    have hrows := (rowsI_ok (E := env0 ++ ls.map (Leaf.den env' gs')) (G := gs0) hd (fun g hh => by obtain ⟨e, rfl⟩ := hg; exact List.mem_append_left _ hh) hH cd).1
    refine ⟨?_, hgl, ?_, ?_, ?_, ?_, hd.df, by rw [cr']; exact hrows⟩
    · rw [List.length_append, hk, hn, v1.1]
    · rw [← c2]; exact hd.sl
    · intro t x ht hx
      have hlt : t < head.slots.length := (List.getElem?_eq_some_iff.1 ht).1
      have e0 : head.slots.getD t .any = x := by simp [List.getD, ht]
      by_cases hi : isSlot items t = true
      · obtain ⟨x', e1, e2, e3⟩ := headIs_slot c1 hH hi
        rw [e0] at e1
        subst e1
        exact ⟨e2.symm, e3⟩
      · have h3 := c3 t hlt
        rw [e0] at h3
        have h4 : x.same (st'.slots.getD t .any) = true := by
          rcases h3 with (h3 | h3) | h3
          · cases x <;> first | exact absurd rfl hx | cases h3
          · exact absurd h3 hi
          · exact h3
        have e := SV.same_eq h4
        have hlt' : t < st'.slots.length := by rw [c2]; exact hlt
        have ht' : st'.slots[t]? = some x := by rw [e]; simp [List.getD, hlt']
        obtain ⟨g1, _⟩ := hd.slots t x ht' hx
        have ok := okS t x ht hx (by simpa using hi)
        obtain ⟨p1, p2⟩ := SV.pre hpE hpG ok
        obtain ⟨_, p4⟩ := SV.pre he hg ok
        exact ⟨by rw [g1, p2, p4], p1⟩
    · have e : bsD (env0 ++ ls.map (Leaf.den env' gs')) gs0 head.blocks = (bsD env' gs' st'.blocks).take head.blocks.length := by
        apply List.ext_getElem?
        intro i
        rw [List.getElem?_take]
        unfold bsD
        rw [List.getElem?_zipWith, List.getElem?_zipWith]
        by_cases hi : i < head.blocks.length
        · rw [if_pos hi]
          obtain ⟨y, hy, q1, q2, _⟩ := blkEq i _ (List.getElem?_eq_getElem hi)
          have g1 : gs0[i]? = some (gs0.getD i 0) := by simp [List.getD, List.getElem?_eq_getElem (show i < gs0.length by omega)]
          have g2 : gs'[i]? = some (gs0.getD i 0) := by
            obtain ⟨e, rfl⟩ := hg
            rw [List.getElem?_append_left (by omega)]; exact g1
          rw [g1, g2, List.getElem?_eq_getElem hi, hy]
          simp only [catS_flat, q1, q2]
        · rw [if_neg hi]
          have : head.blocks[i]? = none := by simp; omega
          rw [this]
          cases gs0[i]? <;> rfl
      rw [e]
      exact hd.mem.take _
    · intro b hb s hs
      obtain ⟨i, hi⟩ := List.mem_iff_getElem?.1 hb
      obtain ⟨_, _, _, _, q⟩ := blkEq i b hi
      exact q s hs
  · cases hf
end
end Go.Proofs.Ytdpongijmmdnoaa
