/- joined: Ve Vf Vg -/
import Derived.Test.YtdpongijmmdnoaaJ10
set_option linter.unusedSimpArgs false
set_option linter.unusedVariables false
/- What is to be shown of a tree, in plain words, and that it is enough. Over any program. -/
namespace Go.Proofs.Ytdpongijmmdnoaa
open Go.RowKit FdP FdP.Ch

def litInts : List Value → Option (IntKind × List Int)
 | [] => none
 | [.int k n] => some (k, [n])
 | .int k n :: l => match litInts l with
  | some (k', m) => if k = k' then some (k, n :: m) else none
  | none => none
 | _ => none
def AV.ints? : AV → Option (IntKind × List Int)
 | .int k n => some (k, [n])
 | .ints k l => some (k, l)
 | .lit l => litInts l
 | _ => none
def joinI : List AV → Option (IntKind × List Int)
 | [] => none
 | [a] => a.ints?
 | a :: l => match a.ints?, joinI l with
  | some (k, x), some (k', y) => if k = k' then some (k, x ++ y) else none
  | _, _ => none
def one : List AV → AV
 | [a] => a
 | l => .agg l
def oneK (ps : List AV) (K : AV → Prop) : Prop := match ps with
 | [a] => K a
 | l => K (.agg l)
theorem oneK_eq (ps : List AV) (K : AV → Prop) : oneK ps K = K (one ps) := by unfold oneK one; split <;> rfl
def appA (c : AV) (ps : List AV) : Option AV := match joinI ps with
 | some (k, m) => (match c with
  | .ints k' l => if k = k' then some (.ints k (l ++ m)) else none
  | .agg [] => some (.ints k m)
  | _ => none)
 | none => (match c with
  | .agg es => some (.agg (es ++ [one ps]))
  | _ => none)
def rowV (sz : Nat) (c : AV) (K : AV → Prop) : Prop := match c with
 | .ints k l => sz = 1 ∧ K (.isl k l)
 | .agg es => 0 < sz ∧ (∀ e ∈ es, e.size = sz) ∧ K (.sl sz es)
 | _ => False
def groupA (sz : Nat) : List AV → List AV → Option (List AV)
 | acc, [] => if acc.isEmpty then some [] else none
 | acc, a :: l => if AV.sizes acc + a.size = sz then (groupA sz [] l).map (one (acc ++ [a]) :: ·) else if AV.sizes acc + a.size < sz then groupA sz (acc ++ [a]) l else none
def mkSl (sz len : Nat) (ps : List AV) (K : AV → Prop) : Prop := match joinI ps, sz with
 | some (k, l), 1 => l.length = len ∧ K (.isl k l)
 | _, _ => match groupA sz [] ps with
  | some es => (es.length = len ∧ 0 < sz) ∧ K (.sl sz es)
  | none => False
def elSz (P : Program) (T : TypeId) : Option Nat := match tyArr P T with
 | some (_, el) => tyN P el
 | none => tyN P T
def slcSz (P : Program) (blk : Blk) (o len : Nat) : Option Nat := (elSz P blk.2).map fun sz => match cutS blk.1 o (len * sz) with
 | some _ => sz
 | none => 1
def segsG (ae : List AV) (sub : Atom → (AV → Prop) → Prop) : List Seg → (List AV → Prop) → Prop
 | [], K => K []
 | .one a :: r, K => sub a fun x => bif x.isAgg then False else segsG ae sub r fun b => K (x :: b)
 | s :: r, K => segW ae s fun a => segsG ae sub r fun b => appK a b K
def atomM (P : Program) (ae : List AV) (bl : Mem) : Nat → Atom → (AV → Prop) → Prop
 | 0, _, _ => False
 | n + 1, .ptr b o, K => match bl.1[b]? with
  | some blk => match dropS blk.1 o with
   | some l => segsG ae (atomM P ae bl n) l fun ps => oneK ps fun a => K (.ref a)
   | none => False
  | none => False
 | n + 1, .slc b o len cap, K => match bl.1[b]? with
  | some blk => match slcSz P blk o len with
   | some sz => match cutS blk.1 o (len * sz) with
    | some l => bif Nat.ble len cap && Nat.blt 0 (len * sz) then segsG ae (atomM P ae bl n) l fun ps => mkSl sz len ps K else False
    | none => False
   | none => False
  | none => False
 | _ + 1, .var k, K => match bl.2.find? (fun r => r.kv == k) with
  | some r => match nthA ae r.kc with
   | some c => rowV r.sz c K
   | none => False
  | none => atomW ae (.var k) K
 | _ + 1, x, K => atomW ae x K
def leafM (P : Program) (ae : List AV) (bl : Mem) : Leaf → (AV → Prop) → Prop
 | .atom x, K => atomM P ae bl 3 x K
 | .agg l, K => segsG ae (atomM P ae bl 3) l fun ps => packK ps K
def leavesM (P : Program) (ae : List AV) (bl : Mem) : List Leaf → (List AV → Prop) → Prop
 | [], K => K []
 | x :: l, K => leafM P ae bl x fun a => leavesM P ae bl l fun b => K (a :: b)
def svM (P : Program) (ae : List AV) (bl : Mem) : SV → (AV → Prop) → Prop
 | .any, _ => False
 | .leaf x, K => leafM P ae bl x K
 | .tup l, K => leavesM P ae bl l fun zs => K (.tup zs)

def AV.noOwn : AV → Bool
 | .own _ _ _ => false
 | _ => true
def leafO (P : Program) (ae : List AV) (bl : Mem) (x : Leaf) (K : AV → Prop) : Prop := match x with
 | .atom (.var k) => match bl.2.find? (fun r => r.kv == k) with
  | some r => match nthA ae r.kc with
   | some c => bif c.isAgg then K (.own r.T r.sz c) else False
   | none => False
  | none => leafM P ae bl (.atom (.var k)) fun a => bif a.noOwn then K a else False
 | .atom (.const (.slice none 0 0)) => ∃ T sz, K (.own T sz (.agg []))
 | x => leafM P ae bl x fun a => bif a.noOwn then K a else False
def leavesO (P : Program) (ae : List AV) (bl : Mem) : List Leaf → (List AV → Prop) → Prop
 | [], K => K []
 | x :: l, K => leafO P ae bl x fun a => leavesO P ae bl l fun b => K (a :: b)
def svO (P : Program) (ae : List AV) (bl : Mem) : SV → (AV → Prop) → Prop
 | .any, _ => False
 | .leaf x, K => leafO P ae bl x K
 | .tup l, K => leavesO P ae bl l fun zs => K (.tup zs)
def valF0 (base : Nat) (β : Base) (a : AV) (v : Value) : Prop := match a with
 | .own T sz c => valR0 β (.own T sz c) v ∧ ∀ g, v.ownBlock = some g → base ≤ g
 | a => valR0 β a v
def valsF (base : Nat) (β : Base) : List AV → List Value → Prop
 | [], vs => vs = []
 | a :: l, vs => ∃ v us, vs = v :: us ∧ valF0 base β a v ∧ valsF base β l us
def valF (base : Nat) (β : Base) (a : AV) (v : Value) : Prop := match a with
 | .tup l => ∃ vs : List Value, v = .tuple vs.toArray ∧ valsF base β l vs
 | a => valF0 base β a v
theorem valF0.R {base : Nat} {β : Base} {a : AV} {v : Value} (h : valF0 base β a v) : valR0 β a v := by
 unfold valF0 at h
 split at h
 ·exact h.1
 ·exact h
theorem valsF.R {base : Nat} {β : Base} : ∀ {l : List AV} {vs : List Value}, valsF base β l vs → valsR β l vs
 | [], _, h => h
 | _ :: _, _, ⟨v, us, e, h1, h2⟩ => ⟨v, us, e, h1.R, h2.R⟩
theorem valF.R {base : Nat} {β : Base} {a : AV} {v : Value} (h : valF base β a v) : valR β a v := by
 unfold valF at h
 split at h
 ·obtain ⟨vs, e, h⟩ := h; exact ⟨vs, e, h.R⟩
 ·exact h.R.notup
theorem valR0.F {base : Nat} {β : Base} {a : AV} {v : Value} (h : valR0 β a v) (hn : a.noOwn = true) : valF0 base β a v := by
 cases a <;> first | exact h | cases hn
def AV.noOwns : AV → Bool
 | .own _ _ _ => false
 | .tup l => l.all AV.noOwn
 | _ => true
theorem valsR.F {base : Nat} {β : Base} : ∀ {l : List AV} {vs : List Value}, valsR β l vs → l.all AV.noOwn = true → valsF base β l vs
 | [], _, h, _ => h
 | _ :: _, _, ⟨v, us, e, h1, h2⟩, hn => by
  simp only [List.all_cons, Bool.and_eq_true] at hn
  exact ⟨v, us, e, h1.F hn.1, h2.F hn.2⟩
theorem valR.F {base : Nat} {β : Base} {a : AV} {v : Value} (h : valR β a v) (hn : a.noOwns = true) : valF base β a v := by
 cases a with
 | tup l => obtain ⟨vs, e, h⟩ := h; exact ⟨vs, e, h.F hn⟩
 | own T sz c => cases hn
 | _ => exact h
section
variable {P : Program} {β : Base} {ae : List AV} {env : List Value} {gs : List Nat}
theorem litInts_ok : ∀ {l : List Value} {k : IntKind} {m : List Int}, litInts l = some (k, m) → l = m.map (.int k)
 | [], _, _, h => by simp [litInts] at h
 | [.int k n], k', m, h => by simp only [litInts, Option.some.injEq, Prod.mk.injEq] at h; obtain ⟨rfl, rfl⟩ := h; rfl
 | .int k n :: v :: l, k', m, h => by
  simp only [litInts] at h
  split at h
  ·rename_i k2 m2 h2
   split at h
   ·rename_i hk
    simp only [Option.some.injEq, Prod.mk.injEq] at h
    obtain ⟨rfl, rfl⟩ := h
    subst hk
    rw [litInts_ok h2]; rfl
   ·cases h
  ·cases h
 | .bool _ :: _, _, _, h => by simp [litInts] at h
 | .float _ _ :: _, _, _, h => by simp [litInts] at h
 | .complex _ _ _ :: _, _, _, h => by simp [litInts] at h
 | .string _ :: _, _, _, h => by simp [litInts] at h
 | .pointer _ :: _, _, _, h => by simp [litInts] at h
 | .slice _ _ _ :: _, _, _, h => by simp [litInts] at h
 | .map _ :: _, _, _, h => by simp [litInts] at h
 | .chan _ :: _, _, _, h => by simp [litInts] at h
 | .func _ _ _ :: _, _, _, h => by simp [litInts] at h
 | .nilFunc :: _, _, _, h => by simp [litInts] at h
 | .iface _ _ :: _, _, _, h => by simp [litInts] at h
 | .nilIface :: _, _, _, h => by simp [litInts] at h
 | .agg _ :: _, _, _, h => by simp [litInts] at h
 | .tuple _ :: _, _, _, h => by simp [litInts] at h
theorem ints?_ok {a : AV} {k : IntKind} {l : List Int} {cs : List Value} (h : a.ints? = some (k, l)) (hc : cellsR β a cs) : cs = l.map (.int k) := by
 unfold AV.ints? at h
 split at h
 ·simp only [Option.some.injEq, Prod.mk.injEq] at h; obtain ⟨rfl, rfl⟩ := h; simpa [cellsR] using hc
 ·simp only [Option.some.injEq, Prod.mk.injEq] at h; obtain ⟨rfl, rfl⟩ := h; simpa [cellsR] using hc
 ·obtain ⟨rfl, _⟩ := hc; exact litInts_ok h
 ·cases h
theorem joinI_ok : ∀ {ps : List AV} {k : IntKind} {l : List Int} {cs : List Value}, joinI ps = some (k, l) → cellsRs β none ps cs → cs = l.map (.int k)
 | [], _, _, _, h, _ => by simp [joinI] at h
 | [a], k, l, cs, h, hc => ints?_ok (by simpa [joinI] using h) hc.snd
 | a :: b :: r, k, l, cs, h, ⟨c, d, e, _, h1, h2⟩ => by
  subst e
  simp only [joinI] at h
  split at h
  ·rename_i k1 x k2 y ha hb
   split at h
   ·rename_i hk
    simp only [Option.some.injEq, Prod.mk.injEq] at h
    obtain ⟨rfl, rfl⟩ := h
    subst hk
    rw [ints?_ok ha h1, joinI_ok hb h2, List.map_append]
   ·cases h
  ·cases h
theorem one_ok {ps : List AV} {cs : List Value} (h : cellsRs β none ps cs) : cellsR β (one ps) cs := by
 unfold one
 split
 ·exact h.snd
 ·exact h
theorem cellsRs.nosz {sz : Option Nat} : ∀ {l : List AV} {cs : List Value}, cellsRs β sz l cs → cellsRs β none l cs
 | [], _, h => h
 | _ :: _, _, ⟨c, d, e, _, h1, h2⟩ => ⟨c, d, e, (fun _ hh => by cases hh), h1, h2.nosz⟩
theorem cellsRs.withsz {sz : Nat} : ∀ {l : List AV} {cs : List Value}, cellsRs β none l cs → (∀ e ∈ l, e.size = sz) → cellsRs β (some sz) l cs
 | [], _, h, _ => h
 | a :: _, _, ⟨c, d, e, _, h1, h2⟩, hs => ⟨c, d, e, (fun n hn => by cases hn; rw [cellsR.size a c h1]; exact hs a (by simp)), h1, h2.withsz fun x hx => hs x (List.mem_cons_of_mem _ hx)⟩
theorem sizes_all {sz : Nat} : ∀ {l : List AV}, (∀ e ∈ l, e.size = sz) → AV.sizes l = l.length * sz
 | [], _ => by simp [AV.sizes]
 | a :: l, h => by
  simp only [AV.sizes, h a (by simp), sizes_all fun e he => h e (List.mem_cons_of_mem _ he), List.length_cons, Nat.succ_mul]; omega
theorem appA_ok {c c' : AV} {ps : List AV} {cs new : List Value} (h : appA c ps = some c') (hc : cellsR β c cs) (hp : cellsRs β none ps new) : c'.isAgg = true ∧ cellsR β c' (cs ++ new) := by
 unfold appA at h
 split at h
 ·rename_i k m hj
  have hn := joinI_ok hj hp
  split at h
  ·rename_i k' l
   split at h
   ·rename_i hk
    cases h
    subst hk
    simp only [cellsR] at hc
    exact ⟨rfl, by simp only [cellsR, hc, hn, List.map_append]⟩
   ·cases h
  ·cases h
   simp only [cellsR, cellsRs] at hc
   subst hc
   exact ⟨rfl, by simp only [cellsR, hn, List.nil_append]⟩
  ·cases h
 ·split at h
  ·rename_i es
   cases h
   exact ⟨rfl, cellsRs.app (show cellsRs β none es cs from hc) (cellsRs.one1 (one_ok hp))⟩
  ·cases h
theorem groupA_ok {sz : Nat} : ∀ {l acc : List AV} {es : List AV} {cs ds : List Value}, groupA sz acc l = some es → cellsRs β none acc cs → cellsRs β none l ds → cellsRs β (some sz) es (cs ++ ds)
 | [], acc, es, cs, ds, h, ha, hl => by
  simp only [groupA] at h
  split at h
  ·rename_i he
   cases h
   have : acc = [] := by simpa using he
   subst this
   simp only [cellsRs] at ha hl ⊢
   rw [ha, hl]; rfl
  ·cases h
 | a :: l, acc, es, cs, ds, h, ha, ⟨c, d, e, _, h1, h2⟩ => by
  subst e
  simp only [groupA] at h
  have hacc := ha.app (cellsRs.one1 h1)
  split at h
  ·rename_i hs
   obtain ⟨es', he, rfl⟩ := Option.map_eq_some_iff.1 h
   have := groupA_ok he (cs := []) (by simp [cellsRs]) h2
   refine ⟨cs ++ c, d, by rw [List.append_assoc], fun n hn => ?_, one_ok hacc, by simpa using this⟩
   cases hn
   rw [List.length_append, cellsRs.size none acc cs ha, cellsR.size a c h1, hs]
  ·split at h
   ·have := groupA_ok h hacc h2
    rwa [List.append_assoc] at this
   ·cases h

theorem View.mk {v : Value} {len sz cap g off : Nat} {cs : List Value} (e : v = .slice (some ⟨g, off, none⟩) len cap) (hc : len ≤ cap) (hl : cs.length = len * sz) (hg : g < β.w.heap.size) (hx : ¬ β.x g)
 (hj : ∀ j, j < cs.length → β.w.cell? ⟨g, off + j, none⟩ = cs[j]?) : View β v len sz cs := ⟨_, cap, e, hc, hl, fun _ => ⟨g, off, rfl, hg, hx, hj⟩⟩
theorem mkSl_ok {sz len cap g off : Nat} {ps : List AV} {cs : List Value} {K : AV → Prop} (h : mkSl sz len ps K) (hc : cellsRs β none ps cs) (hcap : len ≤ cap) (hg : g < β.w.heap.size) (hx : ¬ β.x g)
 (hl : cs.length = len * sz) (hj : ∀ j, j < cs.length → β.w.cell? ⟨g, off + j, none⟩ = cs[j]?) : ∃ a, a.isAgg = false ∧ cellsR β a [.slice (some ⟨g, off, none⟩) len cap] ∧ K a := by
 unfold mkSl at h
 split at h
 ·rename_i k l hj'
  obtain ⟨rfl, h⟩ := h
  have e := joinI_ok hj' hc
  exact ⟨.isl k l, rfl, ⟨_, rfl, View.mk rfl hcap (by simp) hg hx (by rw [← e]; exact hj)⟩, h⟩
 ·split at h
  ·rename_i es he
   obtain ⟨⟨rfl, hs⟩, h⟩ := h
   have := groupA_ok he (cs := []) (by simp [cellsRs]) hc
   exact ⟨.sl _ es, rfl, ⟨_, cs, rfl, View.mk rfl hcap hl hg hx hj, by simpa using this⟩, h⟩
  ·exact h.elim
theorem rowV_ok {sz : Nat} {c : AV} {K : AV → Prop} {v : Value} {n base : Nat} {T : TypeId} {cs : List Value} (h : rowV sz c K) (hc : cellsR β c cs) (ho : β.w.ownsRow base T sz v n cs) (hx : ∀ g, v.ownBlock = some g → ¬ β.x g) :
 ∃ a, a.isAgg = false ∧ cellsR β a [v] ∧ K a := by
 have view : 0 < sz → View β v n sz cs := by
  intro hs
  obtain ⟨h1, ⟨rfl, rfl⟩ | ⟨g, cap, cur, rfl, _, hgg, hcap, _, hcs, htk⟩⟩ := ho
  ·exact ⟨none, 0, rfl, Nat.le_refl _, h1, fun h0 => by omega⟩
  ·refine View.mk rfl hcap h1 (Array.getElem?_eq_some_iff.1 hgg).1 (hx g rfl) fun j hj => ?_
   rw [cell_of_row β.w g (0 + j) cur T (0, 0) hgg, Nat.zero_add, ← htk, List.getElem?_take, if_pos (by omega)]
   simp
 have hlen := ho.1
 unfold rowV at h
 split at h
 ·rename_i k l
  obtain ⟨rfl, h⟩ := h
  simp only [cellsR] at hc
  subst hc
  have hn : n = l.length := by simp at hlen; omega
  subst hn
  exact ⟨.isl k l, rfl, ⟨v, rfl, view (by omega)⟩, h⟩
 ·rename_i es
  obtain ⟨hs, hsz, h⟩ := h
  have h1 := cellsRs.size none es cs hc
  rw [sizes_all hsz, hlen] at h1
  have hn : n = es.length := Nat.eq_of_mul_eq_mul_right hs h1
  subst hn
  exact ⟨.sl sz es, rfl, ⟨v, cs, rfl, view hs, cellsRs.withsz hc hsz⟩, h⟩
 ·exact h.elim

variable {w0 W : World} {x : Nat → Prop} {bl : Mem}
theorem segsG_ok {sub : Atom → (AV → Prop) → Prop} (hs : ∀ (a : Atom) (K : AV → Prop), sub a K → ∃ y, y.isAgg = false ∧ valR0 β y (a.den env gs) ∧ K y) : ∀ {l : List Seg} {K : List AV → Prop}, segsG ae sub l K → valsR β ae env → ∃ ps, cellsRs β none ps (flat env gs l) ∧ K ps
 | [], K, h, _ => ⟨[], by simp [cellsRs, flat], h⟩
 | .one a :: r, K, h, hv => by
  simp only [segsG] at h
  obtain ⟨y, h1, h2, h3⟩ := hs a _ h
  rw [h1] at h3
  obtain ⟨b, h4, h5⟩ := segsG_ok hs h3 hv
  refine ⟨y :: b, ?_, h5⟩
  rw [flat_cons]
  exact ⟨_, _, rfl, (fun _ hh => by cases hh), h2.cell h1, h4⟩
 | .whole k n :: r, K, h, hv => by
  obtain ⟨a, h1, h2⟩ := segW_ok (gs := gs) h hv
  obtain ⟨b, h3, h4⟩ := segsG_ok hs h2 hv
  rw [appK_eq] at h4
  exact ⟨a ++ b, by rw [flat_cons]; exact h1.app h3, h4⟩
 | .part k o n :: r, K, h, hv => by
  obtain ⟨a, h1, h2⟩ := segW_ok (gs := gs) h hv
  obtain ⟨b, h3, h4⟩ := segsG_ok hs h2 hv
  rw [appK_eq] at h4
  exact ⟨a ++ b, by rw [flat_cons]; exact h1.app h3, h4⟩
 | .lit l :: r, K, h, hv => by
  obtain ⟨a, h1, h2⟩ := segW_ok (gs := gs) h hv
  obtain ⟨b, h3, h4⟩ := segsG_ok hs h2 hv
  rw [appK_eq] at h4
  exact ⟨a ++ b, by rw [flat_cons]; exact h1.app h3, h4⟩
 | .rest k :: r, K, h, hv => by
  obtain ⟨a, h1, h2⟩ := segW_ok (gs := gs) h hv
  obtain ⟨b, h3, h4⟩ := segsG_ok hs h2 hv
  rw [appK_eq] at h4
  exact ⟨a ++ b, by rw [flat_cons]; exact h1.app h3, h4⟩
 | .junk k :: r, K, h, hv => by
  obtain ⟨a, h1, h2⟩ := segW_ok (gs := gs) h hv
  obtain ⟨b, h3, h4⟩ := segsG_ok hs h2 hv
  rw [appK_eq] at h4
  exact ⟨a ++ b, by rw [flat_cons]; exact h1.app h3, h4⟩

theorem own_cells (hM : Mm w0 W env gs bl) {b : Nat} {blk : Blk} (hb : bl.1[b]? = some blk) (hg : b < gs.length) : Own W (gs.getD b 0) (flat env gs blk.1) blk.2 ∧ w0.heap.size ≤ gs.getD b 0 := by
 have e : (bsD env gs bl.1)[b]? = some (gs.getD b 0, catS env gs blk.1, blk.2) := by
  have hg' : gs[b]? = some (gs.getD b 0) := by simp [List.getD, List.getElem?_eq_getElem hg]
  unfold bsD
  rw [List.getElem?_zipWith, hg', hb]
 have := hM.1.own _ (List.mem_of_getElem? e)
 rw [catS_flat] at this
 exact ⟨this.2, this.1⟩
theorem atomM_ok (hx : ∀ k, x k → k < w0.heap.size) (hM : Mm w0 W env gs bl) (hv : valsR ⟨W, x⟩ ae env) :
 ∀ (n : Nat) (a : Atom) (K : AV → Prop), atomM P ae bl n a K → ∃ y, y.isAgg = false ∧ valR0 ⟨W, x⟩ y (a.den env gs) ∧ K y
 | 0, _, _, h => h.elim
 | n + 1, .ptr b o, K, h => by
  simp only [atomM] at h
  split at h
  ·rename_i blk hb
   split at h
   ·rename_i l hl
    have hbl : b < gs.length := Nat.lt_of_lt_of_le (List.getElem?_eq_some_iff.1 hb).1 hM.2.2.2
    obtain ⟨q1, q2, q3⟩ := dropS_ok (env := env) (gs := gs) _ _ _ hl (hM.2.2.1 _ (List.mem_of_getElem? hb))
    obtain ⟨ps, h1, h2⟩ := segsG_ok (gs := gs) (atomM_ok hx hM hv n) h hv
    rw [oneK_eq] at h2
    obtain ⟨ho, hge⟩ := own_cells hM hb hbl
    refine ⟨.ref (one ps), rfl, valR0.mk1 rfl ⟨gs.getD b 0, o, _, rfl, one_ok h1, ho.lt, fun hh => ?_, fun j hj => ?_⟩, h2⟩
    ·have := hx _ hh; omega
    ·rw [q1, List.length_drop] at hj
     rw [q1, List.getElem?_drop, List.getElem?_eq_getElem (by omega)]
     exact ho.cell_of _ (List.getElem?_eq_getElem (by omega))
   ·exact h.elim
  ·exact h.elim
 | n + 1, .slc b o len cap, K, h => by
  simp only [atomM] at h
  split at h
  ·rename_i blk hb
   split at h
   ·rename_i sz hsz
    split at h
    ·rename_i l hl
     cases hc : (Nat.ble len cap && Nat.blt 0 (len * sz)) with
     | false => rw [hc] at h; exact h.elim
     | true =>
      rw [hc] at h
      simp only [Bool.and_eq_true, Nat.ble_eq, Nat.blt_eq] at hc
      simp only [cond_true] at h
      have hbl : b < gs.length := Nat.lt_of_lt_of_le (List.getElem?_eq_some_iff.1 hb).1 hM.2.2.2
      obtain ⟨q1, q2, q3⟩ := cutS_ok (env := env) (gs := gs) _ _ _ _ hl (hM.2.2.1 _ (List.mem_of_getElem? hb))
      obtain ⟨ps, h1, h2⟩ := segsG_ok (gs := gs) (atomM_ok hx hM hv n) h hv
      obtain ⟨ho, hge⟩ := own_cells hM hb hbl
      have hle : o + len * sz ≤ (flat env gs blk.1).length := q2.resolve_left (by omega)
      have hlen : (flat env gs l).length = len * sz := by rw [q1, List.length_take, List.length_drop]; omega
      obtain ⟨a, a1, a2, a3⟩ := mkSl_ok (off := o) h2 h1 hc.1 (β := ⟨W, x⟩) ho.lt (fun hh => by have := hx _ hh; omega) hlen (fun j hj => by
       rw [hlen] at hj
       rw [q1, List.getElem?_take, if_pos hj, List.getElem?_drop, List.getElem?_eq_getElem (by omega)]
       exact ho.cell_of _ (List.getElem?_eq_getElem (by omega)))
      exact ⟨a, a1, valR0.mk1 a1 a2, a3⟩
    ·exact h.elim
   ·exact h.elim
  ·exact h.elim
 | n + 1, .var k, K, h => by
  simp only [atomM, nthA_eq] at h
  split at h
  ·rename_i r hr
   split at h
   ·rename_i c hc
    have hrk : r.kv = k := by have := List.find?_some hr; simpa using this
    obtain ⟨v, cs, m, e1, e2, e3, e4⟩ := hM.2.1 r (List.mem_of_find?_eq_some hr)
    obtain ⟨u, hu, hcr⟩ := hv.get hc
    rw [e2] at hu; cases hu
    have hag : c.isAgg = true := by unfold rowV at h; split at h <;> first | rfl | exact h.elim
    obtain ⟨ds, e5, hcc⟩ := hcr.agg hag
    have : cs = ds := by
     simp only [Value.agg.injEq] at e5
     simpa using congrArg Array.toList e5
    subst this
    obtain ⟨a, a1, a2, a3⟩ := rowV_ok h hcc e4 (fun g hg hh => by have := hx _ hh; have := (e4.lt g hg).1; omega)
    refine ⟨a, a1, ?_, a3⟩
    have : Atom.den env gs (.var k) = v := by simp only [Atom.den, List.getD, ← hrk, e1]; rfl
    rw [this]
    exact valR0.mk1 a1 a2
   ·exact h.elim
  ·obtain ⟨a, h1, h2, h3⟩ := atomW_ok (gs := gs) h hv
   exact ⟨a, h2, h1, h3⟩
 | n + 1, .const v, K, h => by obtain ⟨a, h1, h2, h3⟩ := atomW_ok (gs := gs) (x := .const v) h hv; exact ⟨a, h2, h1, h3⟩
 | n + 1, .cell k i, K, h => by obtain ⟨a, h1, h2, h3⟩ := atomW_ok (gs := gs) (x := .cell k i) h hv; exact ⟨a, h2, h1, h3⟩
 | n + 1, .clo f c, K, h => by obtain ⟨a, h1, h2, h3⟩ := atomW_ok (gs := gs) (x := .clo f c) h hv; exact ⟨a, h2, h1, h3⟩
 | n + 1, .mth f c, K, h => by obtain ⟨a, h1, h2, h3⟩ := atomW_ok (gs := gs) (x := .mth f c) h hv; exact ⟨a, h2, h1, h3⟩
 | n + 1, .iptr b o k s, K, h => by obtain ⟨a, h1, h2, h3⟩ := atomW_ok (gs := gs) (x := .iptr b o k s) h hv; exact ⟨a, h2, h1, h3⟩
 | n + 1, .slcx b o k, K, h => by obtain ⟨a, h1, h2, h3⟩ := atomW_ok (gs := gs) (x := .slcx b o k) h hv; exact ⟨a, h2, h1, h3⟩
 | n + 1, .rptr b o k s, K, h => by obtain ⟨a, h1, h2, h3⟩ := atomW_ok (gs := gs) (x := .rptr b o k s) h hv; exact ⟨a, h2, h1, h3⟩
theorem leafM_ok (hx : ∀ k, x k → k < w0.heap.size) (hM : Mm w0 W env gs bl) (hv : valsR ⟨W, x⟩ ae env) {l : Leaf} {K : AV → Prop} (h : leafM P ae bl l K) : ∃ a, valR0 ⟨W, x⟩ a (l.den env gs) ∧ K a := by
 cases l with
 | atom y => obtain ⟨a, _, h1, h2⟩ := atomM_ok hx hM hv 3 y K h; exact ⟨a, h1, h2⟩
 | agg l =>
  obtain ⟨ps, h1, h2⟩ := segsG_ok (gs := gs) (atomM_ok hx hM hv 3) h hv
  rw [packK_eq] at h2
  exact ⟨pack ps, by simp only [Leaf.den, catS_flat]; exact pack_ok h1, h2⟩
theorem leavesM_ok (hx : ∀ k, x k → k < w0.heap.size) (hM : Mm w0 W env gs bl) (hv : valsR ⟨W, x⟩ ae env) : ∀ {l : List Leaf} {K : List AV → Prop}, leavesM P ae bl l K → ∃ zs, valsR ⟨W, x⟩ zs (l.map (Leaf.den env gs)) ∧ K zs
 | [], K, h => ⟨[], rfl, h⟩
 | y :: l, K, h => by
  obtain ⟨a, h1, h2⟩ := leafM_ok hx hM hv h
  obtain ⟨b, h3, h4⟩ := leavesM_ok hx hM hv h2
  exact ⟨a :: b, ⟨_, _, rfl, h1, h3⟩, h4⟩
theorem svM_ok (hx : ∀ k, x k → k < w0.heap.size) (hM : Mm w0 W env gs bl) (hv : valsR ⟨W, x⟩ ae env) {v : SV} {K : AV → Prop} (h : svM P ae bl v K) : ∃ a, valR ⟨W, x⟩ a (v.den env gs) ∧ K a := by
 cases v with
 | any => exact h.elim
 | leaf l => obtain ⟨a, h1, h2⟩ := leafM_ok hx hM hv h; exact ⟨a, h1.notup, h2⟩
 | tup l =>
  obtain ⟨zs, h1, h2⟩ := leavesM_ok hx hM hv h
  exact ⟨.tup zs, ⟨_, rfl, h1⟩, h2⟩
theorem leafO_ok (hx : ∀ k, x k → k < w0.heap.size) (hM : Mm w0 W env gs bl) (hv : valsR ⟨W, x⟩ ae env) {l : Leaf} {K : AV → Prop} (h : leafO P ae bl l K) : ∃ a, valF0 w0.heap.size ⟨W, x⟩ a (l.den env gs) ∧ K a := by
 have go : ∀ {l : Leaf}, leafM P ae bl l (fun a => bif a.noOwn then K a else False) → ∃ a, valF0 w0.heap.size ⟨W, x⟩ a (l.den env gs) ∧ K a := by
  intro l h
  obtain ⟨a, h1, h2⟩ := leafM_ok hx hM hv h
  cases hn : a.noOwn with
  | false => rw [hn] at h2; exact h2.elim
  | true => rw [hn] at h2; exact ⟨a, h1.F hn, h2⟩
 unfold leafO at h
 split at h
 ·rename_i k
  simp only [nthA_eq] at h
  split at h
  ·rename_i r hr
   split at h
   ·rename_i c hc
    have hrk : r.kv = k := by have := List.find?_some hr; simpa using this
    obtain ⟨v, cs, m, e1, e2, e3, e4⟩ := hM.2.1 r (List.mem_of_find?_eq_some hr)
    obtain ⟨u, hu, hcr⟩ := hv.get hc
    rw [e2] at hu; cases hu
    cases hag : c.isAgg with
    | false => rw [hag] at h; exact h.elim
    | true =>
     rw [hag] at h
     obtain ⟨ds, e5, hcc⟩ := hcr.agg hag
     have : cs = ds := by
      simp only [Value.agg.injEq] at e5
      simpa using congrArg Array.toList e5
     subst this
     have hd : Leaf.den env gs (.atom (.var k)) = v := by simp only [Leaf.den, Atom.den, List.getD, ← hrk, e1]; rfl
     rw [hd]
     refine ⟨.own r.T r.sz c, ⟨valR0.mk1 rfl ⟨v, m, cs, rfl, ⟨e4.1, e4.2.imp id fun ⟨g, cap, cur, f1, f2, f3⟩ => ⟨g, cap, cur, f1, Nat.zero_le _, f3⟩⟩, fun g hg hh => ?_, hcc⟩, fun g hg => (e4.lt g hg).1⟩, h⟩
     have := hx g hh; have := (e4.lt g hg).1; omega
   ·exact h.elim
  ·exact go h
 ·obtain ⟨T, sz, h⟩ := h
  exact ⟨.own T sz (.agg []), ⟨valR0.mk1 rfl ⟨_, 0, [], rfl, World.ownsRow_nil _ _ _ _, fun g hg => by simp [Leaf.den, Atom.den, Value.ownBlock] at hg, by simp [cellsR, cellsRs]⟩, fun g hg => by simp [Leaf.den, Atom.den, Value.ownBlock] at hg⟩, h⟩
 ·exact go h
theorem leavesO_ok (hx : ∀ k, x k → k < w0.heap.size) (hM : Mm w0 W env gs bl) (hv : valsR ⟨W, x⟩ ae env) : ∀ {l : List Leaf} {K : List AV → Prop}, leavesO P ae bl l K → ∃ zs, valsF w0.heap.size ⟨W, x⟩ zs (l.map (Leaf.den env gs)) ∧ K zs
 | [], K, h => ⟨[], rfl, h⟩
 | y :: l, K, h => by
  obtain ⟨a, h1, h2⟩ := leafO_ok hx hM hv h
  obtain ⟨b, h3, h4⟩ := leavesO_ok hx hM hv h2
  exact ⟨a :: b, ⟨_, _, rfl, h1, h3⟩, h4⟩
theorem valF0.notup {base : Nat} {β : Base} {a : AV} {v : Value} (h : valF0 base β a v) : valF base β a v := by
 cases a with
 | tup l => exact absurd (h.R.cell rfl) (by simp [cellsR])
 | _ => exact h
theorem svO_ok (hx : ∀ k, x k → k < w0.heap.size) (hM : Mm w0 W env gs bl) (hv : valsR ⟨W, x⟩ ae env) {v : SV} {K : AV → Prop} (h : svO P ae bl v K) : ∃ a, valF w0.heap.size ⟨W, x⟩ a (v.den env gs) ∧ K a := by
 cases v with
 | any => exact h.elim
 | leaf l => obtain ⟨a, h1, h2⟩ := leafO_ok hx hM hv h; exact ⟨a, h1.notup, h2⟩
 | tup l =>
  obtain ⟨zs, h1, h2⟩ := leavesO_ok hx hM hv h
  exact ⟨.tup zs, ⟨_, rfl, h1⟩, h2⟩
def NewRow (base : Nat) (w' : World) (env vs us : List Value) (q : RowS) : Prop := env.length + vs.length ≤ q.kv ∧ ∃ (v : Value) (cs : List Value) (n : Nat), (∀ ws, (env ++ (vs ++ us ++ ws))[q.kv]? = some v ∧ (env ++ (vs ++ us ++ ws))[q.kc]? = some (.agg cs.toArray)) ∧ (∀ x ∈ cs, x.oneCell' = true) ∧ w'.ownsRow base q.T q.sz v n cs
theorem bindRs_ok {q : RowS} {base : Nat} : ∀ {l : List Leaf} {zs : List AV} {m : Nat} {K : List AV → Prop} {xs vs : List Value}, bindRs q m l zs K → m = env.length + vs.length → valsF base ⟨W, x⟩ zs xs →
 ∃ us r, valsR ⟨W, x⟩ r us ∧ K r ∧ (∀ ws, l.map (Leaf.den (env ++ (vs ++ us ++ ws)) gs) = xs ∧ ∀ x ∈ l, x.OK (env ++ (vs ++ us ++ ws)) gs) ∧ NewRow base W env vs us q
 | [], _, m, K, xs, vs, h, hm, hv => by simp only [bindRs] at h
 | _ :: _, [], m, K, xs, vs, h, hm, hv => by simp only [bindRs] at h
 | y :: l, a :: zs, m, K, xs, vs, h, hm, ⟨v, us0, e, h1, h2⟩ => by
  subst e
  simp only [bindRs] at h
  split at h
  ·rename_i T sz c k
   cases hc : (Nat.beq k m && (Nat.beq q.kv m && (Nat.beq q.kc (m + 1) && (Nat.beq q.T T && (Nat.beq q.sz sz && (Nat.blt 0 sz && c.isAgg)))))) with
   | false => rw [hc] at h; exact h.elim
   | true =>
    rw [hc] at h
    simp only [Bool.and_eq_true, Nat.beq_eq, Nat.blt_eq] at hc
    obtain ⟨rfl, c1, c2, c3, c4, c5, c6⟩ := hc
    obtain ⟨hv0, hfr⟩ := (show valR0 ⟨W, x⟩ (.own T sz c) v ∧ _ from h1)
    obtain ⟨v', n, cs, e, ho, _, hcc⟩ := hv0.cell rfl
    obtain rfl : v = v' := by simpa using e
    have hsz := cellsR.size c cs hcc
    have hn : c.size / sz = n := by rw [← hsz, ho.1, Nat.mul_div_cancel _ c5]
    have hrow : ∃ ad cap, v = .slice ad n cap := by
     rcases ho.2 with ⟨rfl, rfl⟩ | ⟨g, cap, cur, rfl, _⟩ <;> exact ⟨_, _, rfl⟩
    obtain ⟨us2, r2, p1, p2, p3⟩ := bindLs_ok (env := env) (gs := gs) (vs := vs ++ [v, .agg cs.toArray]) h (by simp; omega) h2.R
    refine ⟨v :: .agg cs.toArray :: us2, .row (c.size / sz) :: c :: r2, ⟨v, _, rfl, ?_, _, _, rfl, valR0.mk c6 hcc, p1⟩, p2, fun ws => ?_, ?_⟩
    ·rw [hn]
     obtain ⟨ad, cap, rfl⟩ := hrow
     exact valR0.mk1 rfl ⟨_, _, rfl⟩
    ·have e1 : vs ++ v :: .agg cs.toArray :: us2 ++ ws = vs ++ [v, .agg cs.toArray] ++ us2 ++ ws := by simp
     have e2 : vs ++ v :: .agg cs.toArray :: us2 ++ ws = vs ++ v :: (.agg cs.toArray :: (us2 ++ ws)) := by simp
     have hv1 : v.oneCell' = true := hv0.one rfl
     refine ⟨?_, fun z hz => ?_⟩
     ·rw [List.map_cons, e1, (p3 ws).1]
      congr 1
      rw [← e1, e2, hm]
      simp only [Leaf.den, Atom.den, getD_new]
     ·rcases List.mem_cons.1 hz with rfl | hz
      ·rw [e2, hm]
       refine ⟨by simp, ?_⟩
       rw [getD_new]; exact hv1
      ·rw [e1]; exact (p3 ws).2 z hz
    ·refine ⟨by omega, v, cs, n, fun ws => ⟨?_, ?_⟩, cellsR.one c cs hcc, ?_⟩
     ·rw [c1, hm]
      have e2 : vs ++ v :: .agg cs.toArray :: us2 ++ ws = vs ++ v :: (.agg cs.toArray :: (us2 ++ ws)) := by simp
      rw [e2, get_new]
     ·rw [c2, hm]
      have e2 : env ++ (vs ++ v :: .agg cs.toArray :: us2 ++ ws) = env ++ (vs ++ [v] ++ .agg cs.toArray :: (us2 ++ ws)) := by simp
      have e3 : env.length + vs.length + 1 = env.length + (vs ++ [v]).length := by simp; omega
      rw [e2, e3, get_new]
     ·rw [c3, c4]
      refine ⟨ho.1, ho.2.imp id fun ⟨g, cap, cur, f1, f2, f3⟩ => ⟨g, cap, cur, f1, hfr g (by rw [f1]; rfl), f3⟩⟩
  ·obtain ⟨us, r, q1, q2, q3⟩ := bindL_ok (env := env) (gs := gs) (vs := vs) h hm h1.R
   obtain ⟨us2, r2, p1, p2, p3, p4, v0, cs0, n0, p5, p6, p7⟩ := bindRs_ok (vs := vs ++ us) q2 (by rw [List.length_append, q1.len]; omega) h2
   rw [appK_eq] at p2
   have e1 : ∀ ws, vs ++ (us ++ us2) ++ ws = vs ++ us ++ (us2 ++ ws) := fun ws => by simp
   have e2 : ∀ ws, vs ++ (us ++ us2) ++ ws = vs ++ us ++ us2 ++ ws := fun ws => by simp
   refine ⟨us ++ us2, r ++ r2, q1.app p1, p2, fun ws => ⟨?_, fun z hz => ?_⟩, by rw [List.length_append] at p4; omega, v0, cs0, n0, fun ws => ?_, p6, p7⟩
   ·rw [List.map_cons, e1, (q3 (us2 ++ ws)).1, ← List.append_assoc (vs ++ us) us2 ws, (p3 ws).1]
   ·rcases List.mem_cons.1 hz with rfl | hz
    ·rw [e1]; exact (q3 (us2 ++ ws)).2
    ·rw [e2]; exact (p3 ws).2 z hz
   ·rw [e2]; exact p5 ws
theorem bindR_ok {q : RowS} {base : Nat} {r : SV} {a : AV} {K : List AV → Prop} {v : Value} (h : bindR q env.length r a K) (hv : valF base ⟨W, x⟩ a v) :
 ∃ us zs, valsR ⟨W, x⟩ zs us ∧ K zs ∧ r.den (env ++ us) gs = v ∧ r.OK (env ++ us) gs ∧ NewRow base W env [] us q := by
 unfold bindR at h
 split at h
 ·exact h.elim
 ·rename_i y hne
  have hv0 : valF0 base ⟨W, x⟩ a v := by
   cases a with
   | tup l => exact absurd rfl (hne l)
   | _ => exact hv
  obtain ⟨us, zs, q1, q2, q3, q4⟩ := bindRs_ok (env := env) (gs := gs) (vs := []) (xs := [v]) h (by simp) ⟨v, [], rfl, hv0, rfl⟩
  have := q3 []
  simp only [List.nil_append, List.append_nil, List.map_cons, List.map_nil, List.cons.injEq, and_true, List.mem_singleton, forall_eq] at this
  exact ⟨us, zs, q1, q2, this.1, this.2, q4⟩
 ·rename_i l zs
  obtain ⟨xs, rfl, hx⟩ := hv
  obtain ⟨us, r, q1, q2, q3, q4⟩ := bindRs_ok (env := env) (gs := gs) (vs := []) h (by simp) hx
  have := q3 []
  simp only [List.nil_append, List.append_nil] at this
  exact ⟨us, r, q1, q2, by simp only [SV.den, this.1], this.2, q4⟩
 ·exact h.elim
end
end Go.Proofs.Ytdpongijmmdnoaa
/- Trees told in plain words: soundness. Over any program. -/
namespace Go.Proofs.Ytdpongijmmdnoaa
open Go.RowKit FdP FdP.Ch

abbrev Trans := List AV → (AV → Prop) → Prop
abbrev Tab := List (FuncId × Trans)
def Tab.at : Tab → FuncId → List AV → (AV → Prop) → Prop
 | [], _, _, _ => False
 | (k, g) :: t, f, zs, Q => bif Nat.beq f k then g zs Q else Tab.at t f zs Q
def OutA (x : Nat → Prop) (Q : AV → Prop) (w : World) (e : Ending) (w' : World) : Prop := ∃ v a, e = .returned v ∧ valF w.heap.size ⟨w', x⟩ a v ∧ Q a ∧ Fut w w'
theorem OutA.mk {x : Nat → Prop} {Q : AV → Prop} {w w' : World} {e : Ending} {v : Value} {a : AV} (he : e = .returned v) (hv : valR ⟨w', x⟩ a v) (hq : Q a) (hF : Fut w w') (hn : a.noOwns = true := by rfl) : OutA x Q w e w' := ⟨v, a, he, hv.F hn, hq, hF⟩
def Con (P : Program) (f : FuncId) (g : Trans) : Prop :=
 ∀ (w : World) (x : Nat → Prop) (vals : List Value) (zs : List AV) (Q : AV → Prop), (∀ k, x k → k < w.heap.size) → valsR ⟨w, x⟩ zs vals → g zs Q → Calls P f vals.toArray w (OutA x Q w)
def Tab.OK (P : Program) (t : Tab) : Prop := ∀ p ∈ t, Con P p.1 p.2
def Sub (a b : AV) : Prop := ∀ β v, valR0 β a v → valR0 β b v
def Subs : List AV → List AV → Prop
 | [], [] => True
 | a :: l, b :: m => Sub a b ∧ Subs l m
 | _, _ => False

def Leaf.mine (bl : Mem) (x : Leaf) : Bool := x.hasPtr || (match x with
 | .atom (.var k) => bl.2.any fun r => r.kv == k
 | .agg l => l.any fun | .one (.var k) => bl.2.any fun r => r.kv == k | _ => false
 | _ => false)
def callR (P : Program) (T : Tab) (ae : List AV) (bl : Mem) (f : FuncId) (args : List Leaf) (K : AV → Prop) : Prop :=
 bif args.any (Leaf.mine bl) then leavesM P ae bl args fun zs => T.at f zs K else leavesW ae args fun zs => T.at f zs K
def callW (P : Program) (T : Tab) (ae : List AV) (bl : Mem) (f : FuncId) (args : List Leaf) (K : AV → Prop) : Prop :=
 bif args.any (Leaf.mine bl) then leavesM P ae bl args fun zs => T.at f zs fun a => a.free = true ∧ K a else leavesW ae args fun zs => T.at f zs K
def flagL : List AV → Option Bool
 | [] => none
 | .bool b :: _ => some b
 | _ :: l => flagL l
def AV.flag : AV → Option Bool
 | .bool b => some b
 | .tup l => flagL l
 | _ => none
def fixL (c : Bool) : List AV → List AV
 | [] => []
 | .bool _ :: l => .bool c :: l
 | a :: l => a :: fixL c l
def AV.fix (c : Bool) : AV → AV
 | .bool _ => .bool c
 | .tup l => .tup (fixL c l)
 | a => a
structure Sel (c : Bool) (A B : Prop) : Prop where
 yes : c = true → A
 no : c = false → B
def twoW (m : Nat) (r : SV) (n : Nat) (r' : SV) (n' : Nat) (a : AV) (K K' : List AV → Prop) : Prop := match a.flag with
 | some b => Sel b (bindV m r (a.fix true) fun zs => bif Nat.beq zs.length n then K zs else False) (bindV m r' (a.fix false) fun zs => bif Nat.beq zs.length n' then K' zs else False)
 | none => False
def boolW (a : AV) (K K' : Prop) : Prop := match a with
 | .bool b => Sel b K K'
 | _ => False
def contW (ae : List AV) (kc : Option Nat) (K : AV → Prop) : Prop := match kc with
 | none => K (.agg [])
 | some k => match nthA ae k with
  | some c => bif c.isAgg then K c else False
  | none => False
def idxA (ae : List AV) (k : Nat) (K : Int → Prop) : Prop := match nthA ae k with
 | some (.int _ m) => K m
 | _ => False
def idxZ (ae : List AV) (k sc : Nat) (K : Int → Prop) : Prop := bif Nat.beq sc 0 then K 0 else idxA ae k K
def elemZ (off : Nat) (m : Int) (sc n : Nat) (K : Nat → Prop) : Prop := bif Nat.blt 0 n then (bif Nat.beq sc 0 then (bif Nat.beq (off % n) 0 then K (off / n) else False) else (bif Nat.beq off 0 && Nat.beq sc n then K m.toNat else False)) else False
def mkC (sz : Nat) (ps : List AV) (K : AV → Prop) : Prop := match joinI ps, sz with
 | some (k, l), 1 => K (.ints k l)
 | _, _ => match groupA sz [] ps with
  | some es => K (.agg es)
  | none => False
def pintW (ae : List AV) (ev : List (Tmp × SV)) (op : Op) (K : AV → Prop) : Prop := match op with
 | .binOp o _ x y _ => opA ae ev x fun a => opA ae ev y fun b => (match a, b with
  | .int k m, .int k' n => bif decide (k = k') then intB o k m n K else False
  | _, _ => False)
 | _ => False
def AWp (P : Program) (T : Tab) (Q : AV → Prop) : Tree → List (List AV → Prop) → List AV → Prop
 | .ret bl v, _, ae => svM P ae bl v fun a => bif a.noOwns then Q a else False
 | .reto bl v, _, ae => svO P ae bl v Q
 | .call f args bl r n nb k, L, ae => bif nb.isEmpty then callW P T ae bl f args fun a => bindV ae.length r a fun zs => bif Nat.beq zs.length n then (appK ae zs fun ae => AWp P T Q k L ae) else False else False
 | .call2 f args bl r n nb k r' n' nb' k', L, ae => bif nb.isEmpty && nb'.isEmpty then callW P T ae bl f args fun a => twoW ae.length r n r' n' a (fun zs => (appK ae zs fun ae => AWp P T Q k L ae)) (fun zs => (appK ae zs fun ae => AWp P T Q k' L ae)) else False
 | .calc op _ ev _ r n k, L, ae => opW P ae ev op fun a => bindV ae.length r a fun zs => bif Nat.beq zs.length n then (appK ae zs fun ae => AWp P T Q k L ae) else False
 | .calc2 op _ ev _ r n k r' n' k', L, ae => opW P ae ev op fun a => twoW ae.length r n r' n' a (fun zs => (appK ae zs fun ae => AWp P T Q k L ae)) (fun zs => (appK ae zs fun ae => AWp P T Q k' L ae))
 | .pcalc op _ ev r n k, L, ae => pintW ae ev op fun a => bindV ae.length r a fun zs => bif Nat.beq zs.length n then (appK ae zs fun ae => AWp P T Q k L ae) else False
 | .apc kc new _ sz f r n k, L, ae => contW ae (some kc) fun c => segsW ae new fun ps => match appA c ps with
  | some d => d.size ≤ 1000000 ∧ rowV sz d fun a => T.at f [a] fun y => y.free = true ∧ bindV ae.length r y fun zs => bif Nat.beq zs.length n then (appK ae zs fun ae => AWp P T Q k L ae) else False
  | none => False
 | .new k, L, ae => AWp P T Q k L ae
 | .ite x k k', L, ae => atomW ae x fun a => boolW a (AWp P T Q k L ae) (AWp P T Q k' L ae)
 | .loop init _ body, L, ae => ∃ (σ : Type) (I : σ → List AV → Prop) (μ : σ → Nat) (s0 : σ), (leavesW ae init fun zs => ∃ ys, Subs zs ys ∧ I s0 ys) ∧
  ∀ s zs, I s zs → (appK ae zs fun ae => AWp P T Q body (L ++ [fun us => ∃ s', I s' us ∧ μ s' < μ s]) ae)
 | .again j vals, L, ae => leavesW ae vals fun zs => ∃ ys, Subs zs ys ∧ (match L[j]? with
  | some p => p ys
  | none => False)
 | .app kc new sz t, L, ae => contW ae kc fun c => segsW ae new fun ps => match appA c ps with
  | some d => d.size ≤ 1000000 ∧ (appK ae [.row (d.size / sz), d] fun ae => AWp P T Q t L ae)
  | none => False
 | .bound k cnt t, L, ae => idxA ae k fun m => 0 ≤ m ∧ m < (cnt : Int) ∧ AWp P T Q t L ae
 | .boundx k j t, L, ae => idxA ae k fun m => match nthA ae j with
  | some (.row n) => 0 ≤ m ∧ m < (n : Int) ∧ AWp P T Q t L ae
  | _ => False
 | .boundc m j t, L, ae => match nthA ae j with
  | some (.row n) => m < n ∧ AWp P T Q t L ae
  | _ => False
 | .ldi l off k sc n agg t, L, ae => idxZ ae k sc fun m => segsW ae l fun ps => bif agg then (match ps with
  | [.agg es] => elemZ off m sc n fun e => (∀ x ∈ es, x.size = n) ∧ e < es.length ∧ ∃ y, es.getD e .any = y ∧ y.isAgg = true ∧ (appK ae [y] fun ae => AWp P T Q t L ae)
  | _ => False) else match joinI ps with
  | some (kd, xs) => off + m.toNat * sc < xs.length ∧ (appK ae [.int kd (xs.getD (off + m.toNat * sc) 0)] fun ae => AWp P T Q t L ae)
  | none => (match ps with
   | .ints kd xs :: _ => off + m.toNat * sc < xs.length ∧ (appK ae [.int kd (xs.getD (off + m.toNat * sc) 0)] fun ae => AWp P T Q t L ae)
   | _ => (∀ x ∈ ps, x.size = 1) ∧ off + m.toNat * sc < ps.length ∧ ∃ y, ps.getD (off + m.toNat * sc) .any = y ∧ y.isAgg = false ∧ (appK ae [y] fun ae => AWp P T Q t L ae))
 | .sti l off k sc n new t, L, ae => idxZ ae k sc fun m => segsW ae l fun ps => segsW ae new fun qs => bif Nat.beq n 1 then (match joinI ps, joinI qs with
  | some (kd, xs), some (kd', [y]) => kd = kd' ∧ off + m.toNat * sc < xs.length ∧ (appK ae [.ints kd (xs.set (off + m.toNat * sc) y)] fun ae => AWp P T Q t L ae)
  | none, some (kd', [y]) => (match ps with
   | .ints kd xs :: r => kd = kd' ∧ off + m.toNat * sc < xs.length ∧ (appK ae [.agg (.ints kd (xs.set (off + m.toNat * sc) y) :: r)] fun ae => AWp P T Q t L ae)
   | _ => False)
  | _, _ => False) else (match ps with
   | [.agg es] => elemZ off m sc n fun e => (∀ x ∈ es, x.size = n) ∧ (one qs).size = n ∧ e < es.length ∧ (appK ae [.agg (es.set e (one qs))] fun ae => AWp P T Q t L ae)
   | _ => False)
 | .frz kv _ bl t, L, ae => match bl.2.find? (fun r => r.kv == kv) with
  | some r => match nthA ae r.kc with
   | some c => rowV r.sz c fun a => setK ae kv a fun ae => AWp P T Q t L ae
   | none => False
  | none => False
 | .appv kc k sz t, L, ae => contW ae kc fun c => match nthA ae k with
  | some (.isl kd l) => match appA c [.ints kd l] with
   | some d => sz = 1 ∧ 0 ≤ l.length ∧ d.size ≤ 1000000 ∧ (appK ae [.row (d.size / sz), d] fun ae => AWp P T Q t L ae)
   | none => False
  | some (.sl sz' es) => match c with
   | .agg fs => sz' = sz ∧ (0 < sz ∧ 0 ≤ es.length) ∧ (AV.agg (fs ++ es)).size ≤ 1000000 ∧ (appK ae [.row ((AV.agg (fs ++ es)).size / sz), .agg (fs ++ es)] fun ae => AWp P T Q t L ae)
   | _ => False
  | _ => False

 | .mkr new sz t, L, ae => segsW ae new fun ps => mkC sz ps fun c => (appK ae [.row (c.size / sz), c] fun ae => AWp P T Q t L ae)
 | .mkx k z t, L, ae => idxA ae k fun m => 0 ≤ m ∧ m ≤ 1000000 ∧ (match z with
  | [.int kd 0] => (appK ae [.row m.toNat, .ints kd (List.replicate m.toNat 0)] fun ae => AWp P T Q t L ae)
  | z => (∀ x ∈ z, x.oneCell' = true) ∧ (appK ae [.row m.toNat, .agg (List.replicate m.toNat (.lit z))] fun ae => AWp P T Q t L ae))
 | .callr f args bl r n q t, L, ae => callR P T ae bl f args fun a => bindR q ae.length r a fun zs => AV.frees zs = true ∧ bif Nat.beq zs.length n then (appK ae zs fun ae => AWp P T Q t L ae) else False
 | .stop, _, _ => False
 | .both t u, L, ae => AWp P T Q t L ae ∧ AWp P T Q u L ae
 | .rng kv init _ body after, L, ae => match nthA ae kv with
  | some (.isl .i64 xs) => xs.length ≤ 1000000 ∧ ∃ (I : Nat → List AV → Prop), (leavesW ae init fun zs => ∃ ys, Subs zs ys ∧ I 0 ys) ∧
   (∀ k zs, k < xs.length → I k zs → (appK ae zs fun ae => appK ae [.int .i64 ((xs.length : Int) - 1 - k), .int .i64 (xs.getD (xs.length - 1 - k) 0)] fun ae => AWp P T Q body (L ++ [fun us => I (k + 1) us]) ae)) ∧
   (∀ zs, I xs.length zs → (appK ae zs fun ae => AWp P T Q after L ae))
  | _ => False

def LRel (LA : List (List AV → Prop)) (L : List (List Value → Base → Prop)) (β : Base) (x : Nat → Prop) : Prop := LA.length = L.length ∧
 ∀ (j : Nat) p, LA[j]? = some p → ∃ q, L[j]? = some q ∧ ∀ zs us β', valsR β' zs us → Later β β' → (∀ k, x k → β'.x k) → p zs → q us β'

section
variable {P : Program} {T : Tab} {Q : AV → Prop} {w0 : World} {x : Nat → Prop}
theorem LRel.later {LA : List (List AV → Prop)} {L : List (List Value → Base → Prop)} {β β' : Base} (h : LRel LA L β x) (hl : Later β β') : LRel LA L β' x :=
 ⟨h.1, fun j p hj => by
   obtain ⟨q, h1, h2⟩ := h.2 j p hj
   exact ⟨q, h1, fun zs us β2 hv hl2 => h2 zs us β2 hv (hl.trans hl2)⟩⟩
theorem LRel.push {LA : List (List AV → Prop)} {L : List (List Value → Base → Prop)} {β : Base} {p : List AV → Prop} {q : List Value → Base → Prop} (h : LRel LA L β x) (hp : ∀ zs us β', valsR β' zs us → Later β β' → (∀ k, x k → β'.x k) → p zs → q us β') :
 LRel (LA ++ [p]) (L ++ [q]) β x := by
 refine ⟨by simp [h.1], fun j p' hj => ?_⟩
 by_cases hlt : j < LA.length
 ·rw [List.getElem?_append_left hlt] at hj
  obtain ⟨q', h1, h2⟩ := h.2 j p' hj
  exact ⟨q', by rw [List.getElem?_append_left (by rw [← h.1]; exact hlt)]; exact h1, h2⟩
 ·rw [List.getElem?_append_right (by omega)] at hj
  have h0 : j - LA.length = 0 := by
   rcases Nat.eq_zero_or_pos (j - LA.length) with h0 | h0
   ·exact h0
   ·rw [List.getElem?_eq_none (by simp; omega)] at hj; cases hj
  rw [h0] at hj
  simp at hj; subst hj
  exact ⟨q, by rw [List.getElem?_append_right (by rw [← h.1]; omega), ← h.1, h0]; rfl, hp⟩
theorem later_next {β : Base} {W w' : World} (hu : Upto β W) (hF : Fut W w') : Later β (β.next W w' []) :=
 ⟨Nat.le_trans hu.size hF.size, fun k hk hx => ⟨(hF.block k (Nat.lt_of_lt_of_le hk hu.size)).trans (hu.block k hk hx), fun h => by
   rcases h with ⟨_, h⟩ | h
   ·exact hx (h hk)
   ·cases h⟩⟩
theorem later_frz {β : Base} {W : World} (v : Option Value) (hu : Upto β W) : Later β (β.frz W v) :=
 ⟨hu.size, fun k hk hx => ⟨hu.block k hk hx, fun h => hx (h.2.1 hk)⟩⟩
theorem Subs.ok : ∀ {l m : List AV} {β : Base} {vs : List Value}, Subs l m → valsR β l vs → valsR β m vs
 | [], [], _, _, _, h => h
 | _ :: _, _ :: _, _, _, ⟨h1, h2⟩, ⟨v, us, e, h3, h4⟩ => ⟨v, us, e, h1 _ _ h3, h2.ok h4⟩
 | [], _ :: _, _, _, h, _ => h.elim
 | _ :: _, [], _, _, h, _ => h.elim
theorem Tab.at_ok (hT : T.OK P) {f : FuncId} {zs : List AV} {Q : AV → Prop} (h : T.at f zs Q) {w : World} {x : Nat → Prop} {vals : List Value} (hx : ∀ k, x k → k < w.heap.size) (hv : valsR ⟨w, x⟩ zs vals) : Calls P f vals.toArray w (OutA x Q w) := by
 induction T with
 | nil => exact h.elim
 | cons p r ih =>
  obtain ⟨k, g⟩ := p
  simp only [Tab.at] at h
  cases hk : Nat.beq f k with
  | true =>
   rw [hk] at h
   obtain rfl : f = k := by simpa using hk
   exact hT (f, g) (by simp) w x vals zs Q hx hv h
  | false =>
   rw [hk] at h
   exact ih (fun p hp => hT p (List.mem_cons_of_mem _ hp)) h

theorem callR_ok (hT : T.OK P) {ae : List AV} {bl : Mem} {f : FuncId} {args : List Leaf} {K : AV → Prop} {env : List Value} {gs : List Nat} {β : Base} (h : callR P T ae bl f args K) (hv : valsR β ae env) {W : World} (hM : Mm w0 W env gs bl) (hu : Upto β W) :
 Calls P f (args.map (Leaf.den env gs)).toArray W fun e w' => ∃ (y : Nat → Prop) (v : Value) (a : AV), e = .returned v ∧ valF W.heap.size ⟨w', y⟩ a v ∧ K a ∧ Fut W w' := by
 unfold callR at h
 cases hp : args.any (Leaf.mine bl) with
 | true =>
  rw [hp] at h
  have hv' : valsR ⟨W, fun _ => False⟩ ae env := hv.later ⟨hu.size, fun k hk hx => ⟨hu.block k hk hx, id⟩⟩
  obtain ⟨zs, h1, h2⟩ := leavesM_ok (P := P) (fun k hk => hk.elim) hM hv' h
  exact (Tab.at_ok hT h2 (fun k hk => hk.elim) h1).mono fun e w' ⟨v, a, e1, e2, e3, e4⟩ => ⟨_, v, a, e1, e2, e3, e4⟩
 | false =>
  rw [hp] at h
  have hl1 : Later β ⟨W, fun k => k < W.heap.size ∧ (k < β.w.heap.size → β.x k)⟩ := ⟨hu.size, fun k hk hx => ⟨hu.block k hk hx, fun hh => hx (hh.2 hk)⟩⟩
  have hv' := hv.later hl1
  obtain ⟨zs, h1, h2⟩ := leavesW_ok (gs := gs) h hv'
  exact (Tab.at_ok hT h2 (fun k hk => hk.1) h1).mono fun e w' ⟨v, a, e1, e2, e3, e4⟩ => ⟨_, v, a, e1, e2, e3, e4⟩
theorem callW_ok (hT : T.OK P) {ae : List AV} {bl : Mem} {f : FuncId} {args : List Leaf} {K : AV → Prop} {env : List Value} {gs : List Nat} {β : Base} (h : callW P T ae bl f args K) (hv : valsR β ae env) {W : World} (hM : Mm w0 W env gs bl) (hu : Upto β W) :
 Calls P f (args.map (Leaf.den env gs)).toArray W fun e w' => ∃ v a, e = .returned v ∧ valR (β.next W w' []) a v ∧ K a ∧ Fut W w' := by
 unfold callW at h
 cases hp : args.any (Leaf.mine bl) with
 | true =>
  rw [hp] at h
  have hv' : valsR ⟨W, fun _ => False⟩ ae env := hv.later ⟨hu.size, fun k hk hx => ⟨hu.block k hk hx, id⟩⟩
  obtain ⟨zs, h1, h2⟩ := leavesM_ok (P := P) (fun k hk => hk.elim) hM hv' h
  refine (Tab.at_ok hT h2 (fun k hk => hk.elim) h1).mono fun e w' ⟨v, a, e1, e2, e3, e4⟩ => ⟨v, a, e1, e2.R.free e3.1, e3.2, e4⟩
 | false =>
  rw [hp] at h
  have hl1 : Later β ⟨W, fun k => k < W.heap.size ∧ (k < β.w.heap.size → β.x k)⟩ := ⟨hu.size, fun k hk hx => ⟨hu.block k hk hx, fun hh => hx (hh.2 hk)⟩⟩
  have hv' := hv.later hl1
  obtain ⟨zs, h1, h2⟩ := leavesW_ok (gs := gs) h hv'
  have hl2 : ∀ w', Later ⟨w', fun k => k < W.heap.size ∧ (k < β.w.heap.size → β.x k)⟩ (β.next W w' []) := fun w' => ⟨Nat.le_refl _, fun k hk hx => ⟨rfl, fun hh => by
   rcases hh with hh | hh
   ·exact hx hh
   ·cases hh⟩⟩
  exact (Tab.at_ok hT h2 (fun k hk => hk.1) h1).mono fun e w' ⟨v, a, e1, e2, e3, e4⟩ => ⟨v, a, e1, e2.R.later (hl2 w'), e3, e4⟩
theorem fixL_flag : ∀ {l : List AV} {b : Bool}, flagL l = some b → fixL b l = l
 | [], _, h => by cases h
 | .bool c :: l, b, h => by simp only [flagL, Option.some.injEq] at h; subst h; rfl
 | .int _ _ :: l, b, h => by simp only [fixL, fixL_flag (l := l) h]
 | .val _ :: l, b, h => by simp only [fixL, fixL_flag (l := l) h]
 | .any :: l, b, h => by simp only [fixL, fixL_flag (l := l) h]
 | .el _ :: l, b, h => by simp only [fixL, fixL_flag (l := l) h]
 | .fg _ :: l, b, h => by simp only [fixL, fixL_flag (l := l) h]
 | .ints _ _ :: l, b, h => by simp only [fixL, fixL_flag (l := l) h]
 | .lit _ :: l, b, h => by simp only [fixL, fixL_flag (l := l) h]
 | .agg _ :: l, b, h => by simp only [fixL, fixL_flag (l := l) h]
 | .isl _ _ :: l, b, h => by simp only [fixL, fixL_flag (l := l) h]
 | .sl _ _ :: l, b, h => by simp only [fixL, fixL_flag (l := l) h]
 | .ob _ :: l, b, h => by simp only [fixL, fixL_flag (l := l) h]
 | .ref _ :: l, b, h => by simp only [fixL, fixL_flag (l := l) h]
 | .row _ :: l, b, h => by simp only [fixL, fixL_flag (l := l) h]
 | .own _ _ _ :: l, b, h => by simp only [fixL, fixL_flag (l := l) h]
 | .tup _ :: l, b, h => by simp only [fixL, fixL_flag (l := l) h]
theorem fix_flag {a : AV} {b : Bool} (h : a.flag = some b) : a.fix b = a := by
 unfold AV.flag at h
 split at h
 ·cases h; rfl
 ·simp only [AV.fix, fixL_flag h]
 ·cases h
theorem twoW_ok {r : SV} {n : Nat} {r' : SV} {n' : Nat} {a : AV} {K K' : List AV → Prop} {env : List Value} {gs : List Nat} {β : Base} {v : Value} (h : twoW env.length r n r' n' a K K') (hv : valR β a v) :
 (∃ us zs, valsR β zs us ∧ K zs ∧ r.den (env ++ us) gs = v ∧ r.OK (env ++ us) gs ∧ us.length = n) ∨ (∃ us zs, valsR β zs us ∧ K' zs ∧ r'.den (env ++ us) gs = v ∧ r'.OK (env ++ us) gs ∧ us.length = n') := by
 have go : ∀ {r : SV} {n : Nat} {K : List AV → Prop}, (bindV env.length r a fun zs => bif Nat.beq zs.length n then K zs else False) → ∃ us zs, valsR β zs us ∧ K zs ∧ r.den (env ++ us) gs = v ∧ r.OK (env ++ us) gs ∧ us.length = n := by
  intro r n K h
  obtain ⟨us, zs, q1, q2, q3, q4⟩ := bindV_ok (gs := gs) h hv
  cases hn : (Nat.beq zs.length n) with
  | false => rw [hn] at q2; exact q2.elim
  | true =>
   rw [hn] at q2
   exact ⟨us, zs, q1, q2, q3, q4, by rw [q1.len]; simpa using hn⟩
 unfold twoW at h
 split at h
 ·rename_i b hb
  have hf := fix_flag hb
  cases b with
  | true => have h := h.yes rfl; rw [hf] at h; exact .inl (go h)
  | false => have h := h.no rfl; rw [hf] at h; exact .inr (go h)
 ·exact h.elim
theorem valR.bool_inv {β : Base} {b : Bool} {v : Value} (h : valR β (.bool b) v) : v = .bool b := valR0.bool_inv h
theorem contW_ok {ae : List AV} {kc : Option Nat} {K : AV → Prop} {env : List Value} {β : Base} (h : contW ae kc K) (hv : valsR β ae env) : ∃ c, cellsR β c (match (generalizing := false) kc with | some k => cellsAt env k | none => []) ∧ K c := by
 cases kc with
 | none => exact ⟨.agg [], by simp [cellsR, cellsRs], h⟩
 | some k =>
  simp only [contW, nthA_eq] at h
  split at h
  ·rename_i c hc
   cases hag : c.isAgg with
   | false => rw [hag] at h; exact h.elim
   | true =>
    rw [hag] at h
    obtain ⟨v, hk, hr⟩ := hv.get hc
    obtain ⟨cs, rfl, hcc⟩ := hr.agg hag
    refine ⟨c, ?_, h⟩
    have : cellsAt env k = cs := by simp [cellsAt, List.getD, hk, Value.cells]
    simp only [this]; exact hcc
  ·exact h.elim
theorem idxA_ok {ae : List AV} {k : Nat} {K : Int → Prop} {env : List Value} {β : Base} (h : idxA ae k K) (hv : valsR β ae env) : ∃ kd m, env[k]? = some (.int kd m) ∧ K m := by
 unfold idxA at h
 simp only [nthA_eq] at h
 split at h
 ·rename_i kd m hm
  obtain ⟨v, hk, hr⟩ := hv.get hm
  obtain rfl := hr.int_inv
  exact ⟨kd, m, hk, h⟩
 ·exact h.elim
theorem idxZ_ok {ae : List AV} {k sc : Nat} {K : Int → Prop} {env : List Value} {β : Base} (h : idxZ ae k sc K) (hv : valsR β ae env) : ∃ m : Int, intN (env.getD k undef) * sc = m.toNat * sc ∧ K m := by
 unfold idxZ at h
 cases hs : Nat.beq sc 0 with
 | true =>
  rw [hs] at h
  have : sc = 0 := by simpa using hs
  exact ⟨0, by rw [this, Nat.mul_zero, Nat.mul_zero], h⟩
 | false =>
  rw [hs] at h
  obtain ⟨kd, m, hk, h⟩ := idxA_ok h hv
  exact ⟨m, by simp [List.getD, hk, intN], h⟩
theorem elemZ_ok {off : Nat} {m : Int} {sc n : Nat} {K : Nat → Prop} (h : elemZ off m sc n K) : ∃ e, off + m.toNat * sc = e * n ∧ K e := by
 unfold elemZ at h
 cases h0 : Nat.blt 0 n with
 | false => rw [h0] at h; exact h.elim
 | true =>
  rw [h0] at h
  simp only [cond_true] at h
  cases hs : Nat.beq sc 0 with
  | true =>
   rw [hs] at h
   simp only [cond_true] at h
   have e0 : sc = 0 := by simpa using hs
   cases hm : Nat.beq (off % n) 0 with
   | false => rw [hm] at h; exact h.elim
   | true =>
    rw [hm] at h
    have hm' : off % n = 0 := by simpa using hm
    refine ⟨off / n, ?_, h⟩
    have := Nat.div_add_mod off n
    rw [hm', Nat.add_zero] at this
    rw [e0, Nat.mul_zero, Nat.add_zero, Nat.mul_comm]; exact this.symm
  | false =>
   rw [hs] at h
   simp only [cond_false] at h
   cases hc : (Nat.beq off 0 && Nat.beq sc n) with
   | false => rw [hc] at h; exact h.elim
   | true =>
    rw [hc] at h
    simp only [Bool.and_eq_true, Nat.beq_eq] at hc
    exact ⟨m.toNat, by rw [hc.1, hc.2, Nat.zero_add], h⟩
theorem elems_set {β : Base} {sz : Nat} {y : AV} {d : List Value} (hy : cellsR β y d) (hs : y.size = sz) : ∀ {es : List AV} {cs : List Value} {i : Nat}, cellsRs β (some sz) es cs → i < es.length →
 i * sz + sz ≤ cs.length ∧ cellsRs β none (es.set i y) (cs.take (i * sz) ++ d ++ cs.drop (i * sz + sz))
 | [], _, _, _, h => by simp at h
 | a :: l, cs, 0, ⟨c, r, e, hn, ha, hl⟩, _ => by
  subst e
  have hc := hn sz rfl
  refine ⟨by simp; omega, d, r, ?_, (fun _ hh => by cases hh), hy, hl.nosz⟩
  rw [Nat.zero_mul, List.take_zero, List.nil_append, Nat.zero_add, List.drop_append, List.drop_of_length_le (by omega), hc, Nat.sub_self, List.drop_zero, List.nil_append]
 | a :: l, cs, i + 1, ⟨c, r, e, hn, ha, hl⟩, h => by
  subst e
  have hc := hn sz rfl
  obtain ⟨q1, q2⟩ := elems_set hy hs hl (by simpa using h : i < l.length)
  refine ⟨by rw [List.length_append, Nat.succ_mul]; omega, c, _, ?_, (fun _ hh => by cases hh), ha, q2⟩
  have e1 : (i + 1) * sz = sz + i * sz := by rw [Nat.succ_mul]; omega
  rw [e1, List.take_append, List.take_of_length_le (by omega), hc, List.drop_append, List.drop_of_length_le (by omega), hc]
  have e2 : sz + i * sz - sz = i * sz := by omega
  have e3 : sz + i * sz + sz - sz = i * sz + sz := by omega
  rw [e2, e3, List.nil_append]
  simp only [List.append_assoc]
theorem row_new {β : Base} {v : Value} {n : Nat} (h : SliceN v n) : valR0 β (.row n) v := by
 obtain ⟨a, cap, rfl⟩ := h
 exact valR0.mk1 rfl ⟨a, cap, rfl⟩

theorem mkC_ok {β : Base} {sz : Nat} {ps : List AV} {K : AV → Prop} {cs : List Value} (h : mkC sz ps K) (hp : cellsRs β none ps cs) : ∃ c, c.isAgg = true ∧ cellsR β c cs ∧ K c := by
 unfold mkC at h
 split at h
 ·rename_i k l hj
  exact ⟨_, rfl, by simp only [cellsR]; exact joinI_ok hj hp, h⟩
 ·split at h
  ·rename_i es he
   have := groupA_ok he (cs := []) (by simp [cellsRs]) hp
   exact ⟨.agg es, rfl, by show cellsRs β none es cs; simpa using this.nosz, h⟩
  ·exact h.elim
theorem awp_ok (hT : T.OK P) (hx : ∀ k, x k → k < w0.heap.size) : ∀ (t : Tree) (LA : List (List AV → Prop)) (ae : List AV) (L : List (List Value → Base → Prop)) (env : List Value) (gs : List Nat) (β : Base),
 AWp P T Q t LA ae → valsR β ae env → LRel LA L β x → (∀ k, x k → β.x k) → TWb P w0 (OutA x Q w0) t L env gs β := by
 intro t
 induction t with
 | ret bl v =>
  intro LA ae L env gs β h hv hL hb W hM hu
  have hv' : valsR ⟨W, x⟩ ae env := hv.later ⟨hu.size, fun k hk hxk => ⟨hu.block k hk hxk, fun hh => hxk (hb k hh)⟩⟩
  obtain ⟨a, h1, h2⟩ := svM_ok hx hM hv' h
  cases hn : a.noOwns with
  | false => rw [hn] at h2; exact h2.elim
  | true => rw [hn] at h2; exact ⟨_, a, rfl, h1.F hn, h2, hM.1.below⟩
 | reto bl v =>
  intro LA ae L env gs β h hv hL hb W hM hu
  have hv' : valsR ⟨W, x⟩ ae env := hv.later ⟨hu.size, fun k hk hxk => ⟨hu.block k hk hxk, fun hh => hxk (hb k hh)⟩⟩
  obtain ⟨a, h1, h2⟩ := svO_ok hx hM hv' h
  exact ⟨_, a, rfl, h1, h2, hM.1.below⟩
 | call f args bl r n nb k ih =>
  intro LA ae L env gs β h hv hL hb W hM hu
  simp only [AWp, appK_eq, setK_eq, nthA_eq] at h
  cases nb with
  | cons b nb => exact h.elim
  | nil =>
   refine (callW_ok hT h hv hM hu).mono fun e w' ⟨v, a, e1, e2, h, hF⟩ => ?_
   have hla := later_next hu hF
   rw [← hv.len] at h
   obtain ⟨us, zs, q1, q2, q3, q4⟩ := bindV_ok (gs := gs) h e2
   cases hn : (Nat.beq zs.length n) with
   | false => rw [hn] at q2; exact q2.elim
   | true =>
    rw [hn] at q2
    simp only [Nat.beq_eq] at hn
    refine ⟨us, [], by rw [q1.len, hn], rfl, by rw [List.append_nil, q3, e1], by rw [List.append_nil]; exact q4, (by intro b hb; cases hb), hF, NewB.nil _ _ _ _, ?_⟩
    rw [List.append_nil]
    refine ih LA (ae ++ zs) L _ gs _ q2 ((hv.later hla).app q1) (hL.later hla) fun k hk => .inl ⟨?_, fun _ => hb k hk⟩
    have := hx k hk; have := hM.1.below.size; omega
 | call2 f args bl r n nb k r' n' nb' k' ih ih' =>
  intro LA ae L env gs β h hv hL hb W hM hu
  simp only [AWp, appK_eq, setK_eq, nthA_eq] at h
  cases nb with
  | cons b nb => exact h.elim
  | nil =>
   cases nb' with
   | cons b nb' => exact h.elim
   | nil =>
    refine (callW_ok hT h hv hM hu).mono fun e w' ⟨v, a, e1, e2, h, hF⟩ => ?_
    have hla := later_next hu hF
    have hb' : ∀ k, x k → (β.next W w' []).x k := fun k hk => .inl ⟨by have := hx k hk; have := hM.1.below.size; omega, fun _ => hb k hk⟩
    rw [← hv.len] at h
    rcases twoW_ok (gs := gs) h e2 with ⟨us, zs, q1, q2, q3, q4, q5⟩ | ⟨us, zs, q1, q2, q3, q4, q5⟩
    ·refine .inl ⟨us, [], q5, rfl, by rw [List.append_nil, q3, e1], by rw [List.append_nil]; exact q4, (by intro b hb; cases hb), hF, NewB.nil _ _ _ _, ?_⟩
     rw [List.append_nil]
     exact ih LA (ae ++ zs) L _ gs _ q2 ((hv.later hla).app q1) (hL.later hla) hb'
    ·refine .inr ⟨us, [], q5, rfl, by rw [List.append_nil, q3, e1], by rw [List.append_nil]; exact q4, (by intro b hb; cases hb), hF, NewB.nil _ _ _ _, ?_⟩
     rw [List.append_nil]
     exact ih' LA (ae ++ zs) L _ gs _ q2 ((hv.later hla).app q1) (hL.later hla) hb'
 | «calc» op ty ev bl r n k ih =>
  intro LA ae L env gs β h hv hL hb
  simp only [AWp, appK_eq, setK_eq, nthA_eq] at h
  obtain ⟨v, a, h1, h, h3⟩ := opW_ok (gs := gs) h hv
  rw [← hv.len] at h
  obtain ⟨us, zs, q1, q2, q3, q4⟩ := bindV_ok (gs := gs) h h1
  cases hn : (Nat.beq zs.length n) with
  | false => rw [hn] at q2; exact q2.elim
  | true =>
   rw [hn] at q2
   simp only [Nat.beq_eq] at hn
   exact ⟨us, by rw [q1.len, hn], q4, fun o ac W ho _ he _ hu => by rw [q3]; exact h3 o ac W ho he hu, ih LA (ae ++ zs) L _ gs β q2 (hv.app q1) hL hb⟩
 | calc2 op ty ev bl r n k r' n' k' ih ih' =>
  intro LA ae L env gs β h hv hL hb
  simp only [AWp, appK_eq, setK_eq, nthA_eq] at h
  obtain ⟨v, a, h1, h, h3⟩ := opW_ok (gs := gs) h hv
  rw [← hv.len] at h
  rcases twoW_ok (gs := gs) h h1 with ⟨us, zs, q1, q2, q3, q4, q5⟩ | ⟨us, zs, q1, q2, q3, q4, q5⟩
  ·exact .inl ⟨us, q5, q4, fun o ac W ho _ he _ hu => by rw [q3]; exact h3 o ac W ho he hu, ih LA (ae ++ zs) L _ gs β q2 (hv.app q1) hL hb⟩
  ·exact .inr ⟨us, q5, q4, fun o ac W ho _ he _ hu => by rw [q3]; exact h3 o ac W ho he hu, ih' LA (ae ++ zs) L _ gs β q2 (hv.app q1) hL hb⟩
 | pcalc op ty ev r n k ih =>
  intro LA ae L env gs β h hv hL hb
  simp only [AWp, appK_eq, setK_eq, nthA_eq] at h
  unfold pintW at h
  split at h
  ·rename_i o t y1 y2 yt
   obtain ⟨u, a, g1, g2, h⟩ := opA_ok (gs := gs) h hv
   obtain ⟨u', a', g3, g4, h⟩ := opA_ok (gs := gs) h hv
   split at h
   ·rename_i kd m kd' m' _
    obtain rfl := g2.int_inv; obtain rfl := g4.int_inv
    cases hkk : decide (kd = kd') with
    | false => rw [hkk] at h; exact h.elim
    | true =>
    rw [hkk] at h
    simp only [cond_true] at h
    obtain rfl := of_decide_eq_true hkk
    obtain ⟨v, c, h1, h, h3⟩ := intB_ok (β := β) (P := P) h
    rw [← hv.len] at h
    obtain ⟨us, zs, q1, q2, q3, q4⟩ := bindV_ok (gs := gs) h h1
    cases hn : (Nat.beq zs.length n) with
    | false => rw [hn] at q2; exact q2.elim
    | true =>
     rw [hn] at q2
     simp only [Nat.beq_eq] at hn
     refine ⟨us, by rw [q1.len, hn], q4, fun op ac W ho _ he => ?_, ih LA (ae ++ zs) L _ gs β q2 (hv.app q1) hL hb⟩
     rw [q3]
     unfold execOp
     simp only [ho, opv_ok g1 he, opv_ok g3 he, Sem.run_bind, (show ∀ W, (eqGuard o t y1 y2 (.int kd m) (.int kd m')).run P W = .ok () W from fun W => by unfold eqGuard; cases o <;> rfl), Result.andThen_ok, h3 t W, Sem.run_pure]
   ·exact h.elim
  ·exact h.elim
 | apc kc new TT sz f r n k ih =>
  intro LA ae L env gs β h hv hL hb
  simp only [AWp, appK_eq, setK_eq, nthA_eq] at h
  obtain ⟨c, hc, h⟩ := contW_ok h hv
  obtain ⟨ps, hp, h⟩ := segsW_ok (gs := gs) h hv
  split at h
  ·rename_i d hd
   obtain ⟨q1, q2⟩ := appA_ok hd hc hp
   have hs := cellsR.size d _ q2
   rw [← catS_flat] at hs q2
   refine ⟨by rw [hs]; exact h.1, fun W v m hW hu hv1 hown => ?_⟩
   have hla0 : Later β ⟨W, fun _ => False⟩ := ⟨hu.size, fun k hk hxk => ⟨hu.block k hk hxk, id⟩⟩
   obtain ⟨a, a1, a2, a3⟩ := rowV_ok (β := ⟨W, fun _ => False⟩) h.2 (cellsR.later hla0 _ _ q2) hown (fun g _ hh => hh)
   refine (Tab.at_ok (x := fun _ => False) (vals := [v]) hT a3 (fun k hk => hk.elim) (valsR.one1 (valR0.mk1 a1 a2))).mono fun e w' ⟨y, b, e1, e2, e3, hF⟩ => ?_
   have hla := later_next hu hF
   have e2' : valR (β.next W w' []) b y := e2.R.free e3.1
   have h3 := e3.2
   rw [← hv.len] at h3
   obtain ⟨us, zs, p1, p2, p3, p4⟩ := bindV_ok (gs := gs) h3 e2'
   cases hn : (Nat.beq zs.length n) with
   | false => rw [hn] at p2; exact p2.elim
   | true =>
    rw [hn] at p2
    simp only [Nat.beq_eq] at hn
    refine ⟨us, [], by rw [p1.len, hn], rfl, by rw [List.append_nil, p3, e1], by rw [List.append_nil]; exact p4, (by intro b hb; cases hb), hF, NewB.nil _ _ _ _, ?_⟩
    rw [List.append_nil]
    refine ih LA (ae ++ zs) L _ gs _ p2 ((hv.later hla).app p1) (hL.later hla) fun k hk => .inl ⟨?_, fun _ => hb k hk⟩
    have := hx k hk; omega
  ·exact h.elim
 | new k ih => intro LA ae L env gs β h hv hL hb g; exact ih LA ae L env _ β h hv hL hb
 | ite y k k' ih ih' =>
  intro LA ae L env gs β h hv hL hb
  simp only [AWp, appK_eq, setK_eq, nthA_eq] at h
  obtain ⟨a, h1, _, h⟩ := atomW_ok (gs := gs) h hv
  unfold boolW at h
  split at h
  ·rename_i b _
   exact ⟨b, h1.bool_inv, fun hh => ih LA ae L env gs β (h.yes hh) hv hL hb, fun hh => ih' LA ae L env gs β (h.no hh) hv hL hb⟩
  ·exact h.elim
 | loop init ks body ih =>
  intro LA ae L env gs β h hv hL hb
  simp only [AWp, appK_eq, setK_eq, nthA_eq] at h
  obtain ⟨σ, I, μ, s0, h0, h⟩ := h
  obtain ⟨zs, q1, ys, q2, q3⟩ := leavesW_ok (gs := gs) h0 hv
  refine ⟨σ, fun s us β' => Later β β' ∧ (∀ k, x k → β'.x k) ∧ ∃ zs, valsR β' zs us ∧ I s zs, μ, s0, ⟨Later.refl _, hb, ys, q2.ok q1, q3⟩, ?_⟩
  intro s vs β' _ ⟨hl, hb', us, hus, hI⟩
  refine ih _ (ae ++ us) _ _ gs β' (h s us hI) ((hv.later hl).app hus) ((hL.later hl).push ?_) hb'
  intro zs us β2 hz hl2 hb2 ⟨s', hs1, hs2⟩
  exact ⟨s', ⟨hl.trans hl2, hb2, zs, hz, hs1⟩, hs2⟩
 | again j vals =>
  intro LA ae L env gs β h hv hL hb
  simp only [AWp, appK_eq, setK_eq, nthA_eq] at h
  obtain ⟨zs, q1, ys, q2, h⟩ := leavesW_ok (gs := gs) h hv
  split at h
  ·rename_i p hp
   obtain ⟨q, h1, h2⟩ := hL.2 j p hp
   exact ⟨q, h1, h2 ys _ β (q2.ok q1) (Later.refl _) hb h⟩
  ·exact h.elim
 | app kc new sz t ih =>
  intro LA ae L env gs β h hv hL hb
  simp only [AWp, appK_eq, setK_eq, nthA_eq] at h
  obtain ⟨c, hc, h⟩ := contW_ok h hv
  obtain ⟨ps, hp, h⟩ := segsW_ok (gs := gs) h hv
  split at h
  ·rename_i d hd
   have fin : ∀ old, cellsR β c old → (old ++ catS env gs new).length ≤ 1000000 ∧ ∀ v : Value, SliceN v ((old ++ catS env gs new).length / sz) → TWb P w0 (OutA x Q w0) t L (env ++ [v, .agg (old ++ catS env gs new).toArray]) gs β := by
    intro old hc
    obtain ⟨q1, q2⟩ := appA_ok hd hc hp
    have hs := cellsR.size d _ q2
    rw [← catS_flat] at hs q2
    refine ⟨by rw [hs]; exact h.1, fun v hn => ih LA _ L _ gs β h.2 (hv.app ?_) hL hb⟩
    rw [hs] at hn
    exact ⟨v, _, rfl, row_new hn, _, _, rfl, valR0.mk q1 q2, rfl⟩
   cases kc with
   | none => exact fin _ hc
   | some k => exact fin _ hc
  ·exact h.elim
 | bound k cnt t ih =>
  intro LA ae L env gs β h hv hL hb
  simp only [AWp, appK_eq, setK_eq, nthA_eq] at h
  obtain ⟨kd, m, hk, h0, h1, h2⟩ := idxA_ok h hv
  exact ⟨kd, m, hk, h0, h1, ih LA ae L env gs β h2 hv hL hb⟩
 | boundx k j t ih =>
  intro LA ae L env gs β h hv hL hb
  simp only [AWp, appK_eq, setK_eq, nthA_eq] at h
  obtain ⟨kd, m, hk, h⟩ := idxA_ok h hv
  split at h
  ·rename_i n hn
   obtain ⟨h0, h1, h2⟩ := h
   obtain ⟨v, hkv, hr⟩ := hv.get hn
   obtain ⟨ad, cap, e⟩ := hr.cell rfl
   obtain rfl : v = .slice ad n cap := by simpa using e
   exact ⟨kd, m, hk, h0, by simp only [List.getD, hkv, Option.getD_some, lenN]; exact h1, ih LA ae L env gs β h2 hv hL hb⟩
  ·exact h.elim
 | boundc m j t ih =>
  intro LA ae L env gs β h hv hL hb
  simp only [AWp, appK_eq, setK_eq, nthA_eq] at h
  split at h
  ·rename_i n hn
   obtain ⟨h1, h2⟩ := h
   obtain ⟨v, hkv, hr⟩ := hv.get hn
   obtain ⟨ad, cap, e⟩ := hr.cell rfl
   obtain rfl : v = .slice ad n cap := by simpa using e
   exact ⟨by simp only [List.getD, hkv, Option.getD_some, lenN]; exact h1, ih LA ae L env gs β h2 hv hL hb⟩
  ·exact h.elim
 | ldi l off k sc n agg t ih =>
  intro LA ae L env gs β h hv hL hb
  simp only [AWp, appK_eq, setK_eq, nthA_eq] at h
  obtain ⟨m, em, h⟩ := idxZ_ok h hv
  obtain ⟨ps, hp, h⟩ := segsW_ok (gs := gs) h hv
  cases agg with
  | true =>
   simp only [cond_true] at h
   split at h
   ·rename_i es
    obtain ⟨e, he, h1, h2, y, rfl, hy, h3⟩ := elemZ_ok h
    have hes : cellsRs β none es (flat env gs l) := hp.snd
    obtain ⟨c, q1, q2, q3, q4⟩ := elems_get (hes.withsz h1) h2
    show (if true = true then _ else _)
    rw [if_pos rfl, em, catS_flat, he]
    have ec : ((flat env gs l).drop (e * n)).take n = c := by
     apply List.ext_getElem?
     intro i
     rw [List.getElem?_take]
     by_cases hi : i < n
     ·rw [if_pos hi, List.getElem?_drop, q3 i hi]
     ·rw [if_neg hi, List.getElem?_eq_none (by omega)]
    rw [ec]
    exact ⟨q4, ih LA _ L _ gs β h3 (hv.app (valsR.one1 (valR0.mk hy q1))) hL hb⟩
   ·exact h.elim
  | false =>
   simp only [cond_false] at h
   show (if false = true then _ else _)
   rw [if_neg (by simp), em, catS_flat]
   split at h
   ·rename_i kd' xs hj
    have e := joinI_ok hj hp
    rw [e]
    refine ⟨.int kd' (xs.getD (off + m.toNat * sc) 0), ?_, ih LA _ L _ gs β h.2 (hv.app (valsR.one1 (valR0.mk1 rfl rfl))) hL hb⟩
    have := h.1
    simp [List.getD, this]
   ·split at h
    ·rename_i kd' xs r _
     obtain ⟨c, d, e, _, hc, _⟩ := hp
     simp only [cellsR] at hc
     subst hc
     rw [e]
     refine ⟨.int kd' (xs.getD (off + m.toNat * sc) 0), ?_, ih LA _ L _ gs β h.2 (hv.app (valsR.one1 (valR0.mk1 rfl rfl))) hL hb⟩
     have := h.1
     rw [List.getElem?_append_left (by simpa using this)]
     simp [List.getD, this]
    ·obtain ⟨h1, h2, y, rfl, hy, h3⟩ := h
     obtain ⟨c, q1, q2, q3, q4⟩ := elems_get (hp.withsz h1) h2
     match c, q1, q2, q3 with
     | [v], q1, q2, q3 =>
      have q5 := q3 0 (by omega)
      rw [Nat.mul_one, Nat.add_zero] at q5
      exact ⟨v, q5, ih LA _ L _ gs β h3 (hv.app (valsR.one1 (valR0.mk1 hy q1))) hL hb⟩
     | [], q1, q2, q3 => simp at q2
     | _ :: _ :: _, q1, q2, q3 => simp at q2
 | sti l off k sc n new t ih =>
  intro LA ae L env gs β h hv hL hb
  simp only [AWp, appK_eq, setK_eq, nthA_eq] at h
  obtain ⟨m, em, ha⟩ := idxZ_ok h hv
  clear h
  obtain ⟨ps, hp, hc⟩ := segsW_ok (gs := gs) ha hv
  clear ha
  obtain ⟨qs, hq, h⟩ := segsW_ok (gs := gs) hc hv
  clear hc
  cases hn : (Nat.beq n 1) with
  | false =>
   rw [hn] at h
   simp only [cond_false] at h
   split at h
   ·rename_i es
    obtain ⟨e, he, h1, h2, h3, h4⟩ := elemZ_ok h
    have hes : cellsRs β none es (flat env gs l) := hp.snd
    have hq' := one_ok hq
    obtain ⟨q1, q2⟩ := elems_set hq' h2 (hes.withsz h1) h3
    show _ ∧ _
    rw [em, catS_flat, catS_flat, he]
    exact ⟨q1, ih LA _ L _ gs β h4 (hv.app (valsR.one1 (valR0.mk (a := .agg (es.set e (one qs))) rfl q2))) hL hb⟩
   ·exact h.elim
  | true =>
   rw [hn] at h
   simp only [Nat.beq_eq] at hn
   subst hn
   simp only [cond_true] at h
   split at h
   ·rename_i kd1 xs kd2 y hj1 hj2
    obtain ⟨rfl, hlt, h⟩ := h
    have e := joinI_ok hj1 hp
    have e2 := joinI_ok hj2 hq
    have e3 : (catS env gs l).take (off + intN (env.getD k undef) * sc) ++ catS env gs new ++ (catS env gs l).drop (off + intN (env.getD k undef) * sc + 1) = (xs.set (off + m.toNat * sc) y).map (.int kd1) := by
     rw [em, catS_flat, catS_flat, e, e2, List.map_set, List.set_eq_take_append_cons_drop, if_pos (by simpa using hlt)]
     simp
    refine ⟨?_, ?_⟩
    ·rw [em, catS_flat, e, List.length_map]; omega
    ·rw [e3]
     exact ih LA _ L _ gs β h (hv.app (valsR.one1 (valR0.mk rfl rfl))) hL hb
   ·rename_i kd2 y hj1 hj2
    split at h
    ·rename_i kd1 xs r
     obtain ⟨rfl, hlt, h⟩ := h
     obtain ⟨c, d, e, hn0, hc, hd⟩ := hp
     simp only [cellsR] at hc
     subst hc
     have e2 := joinI_ok hj2 hq
     have e3 : (catS env gs l).take (off + intN (env.getD k undef) * sc) ++ catS env gs new ++ (catS env gs l).drop (off + intN (env.getD k undef) * sc + 1) = (xs.set (off + m.toNat * sc) y).map (.int kd1) ++ d := by
      have hlm : off + m.toNat * sc < (xs.map (Value.int kd1)).length := by simpa using hlt
      rw [em, catS_flat, catS_flat, e, e2, List.map_set, List.set_eq_take_append_cons_drop, if_pos hlm, List.take_append_of_le_length (by omega), List.drop_append_of_le_length (by omega)]
      simp
     refine ⟨?_, ?_⟩
     ·rw [em, catS_flat, e, List.length_append, List.length_map]; omega
     ·rw [e3]
      exact ih LA _ L _ gs β h (hv.app (valsR.one1 (valR0.mk (a := .agg (.ints kd1 (xs.set (off + m.toNat * sc) y) :: r)) rfl ⟨_, d, rfl, (fun _ hh => by cases hh), rfl, hd⟩))) hL hb
    ·exact h.elim
   ·exact h.elim
 | frz kv kc bl t ih =>
  intro LA ae L env gs β h hv hL hb W hM hu
  simp only [AWp, appK_eq, setK_eq, nthA_eq] at h
  split at h
  ·rename_i r hr
   split at h
   ·rename_i c hc
    have hrk : r.kv = kv := by have := List.find?_some hr; simpa using this
    obtain ⟨v, cs, m, e1, e2, e3, e4⟩ := hM.2.1 r (List.mem_of_find?_eq_some hr)
    rw [hrk] at e1
    have hla := later_frz env[kv]? hu
    have hv' := hv.later hla
    obtain ⟨u, hu2, hcr⟩ := hv'.get hc
    rw [e2] at hu2; cases hu2
    have hag : c.isAgg = true := by unfold rowV at h; split at h <;> first | rfl | exact h.elim
    obtain ⟨ds, e5, hcc⟩ := hcr.agg hag
    have : cs = ds := by
     simp only [Value.agg.injEq] at e5
     simpa using congrArg Array.toList e5
    subst this
    obtain ⟨a, a1, a2, a3⟩ := rowV_ok (β := β.frz W env[kv]?) h hcc e4 (fun g hg hh => hh.2.2 v e1 hg)
    refine ih LA (ae.set kv a) L env gs _ a3 ?_ (hL.later hla) fun k hk => ⟨by have := hx k hk; have := hM.1.below.size; omega, fun _ => hb k hk, fun u hu3 hg => ?_⟩
    ·have set : ∀ (l : List AV) (vs : List Value) (k : Nat), valsR (β.frz W env[kv]?) l vs → vs[k]? = some v → valsR (β.frz W env[kv]?) (l.set k a) vs := by
      intro l
      induction l with
      | nil => intro vs k h _; exact h
      | cons b l ihl =>
       intro vs k ⟨y, us, e, h1, h2⟩ hk
       subst e
       cases k with
       | zero => simp at hk; subst hk; exact ⟨_, _, rfl, valR0.mk1 a1 a2, h2⟩
       | succ k => exact ⟨_, _, rfl, h1, ihl us k h2 (by simpa using hk)⟩
     exact set ae env kv hv' e1
    ·rw [e1] at hu3; cases hu3
     have := hx k hk; have := (e4.lt k hg).1; omega
   ·exact h.elim
  ·exact h.elim
 | appv kc k sz t ih =>
  intro LA ae L env gs β h hv hL hb
  simp only [AWp, appK_eq, setK_eq, nthA_eq] at h
  obtain ⟨c, hc, h⟩ := contW_ok h hv
  split at h
  ·rename_i kd l hk
   split at h
   ·rename_i d hd
    obtain ⟨rfl, hl, hsz, h⟩ := h
    obtain ⟨v, hkv, hr⟩ := hv.get hk
    obtain ⟨v', e, ad, cap, rfl, hcap, hcl, hp⟩ := hr.cell rfl
    obtain rfl : v = .slice ad l.length cap := by simpa using e
    have hone : ∀ u ∈ l.map (Value.int kd), u.oneCell' = true := fun u hu => by obtain ⟨y, _, rfl⟩ := List.mem_map.1 hu; rfl
    have fin : ∀ old, cellsR β c old → (old ++ l.map (Value.int kd)).length ≤ 1000000 ∧ ∀ v : Value, SliceN v ((old ++ l.map (Value.int kd)).length / 1) → TWb P w0 (OutA x Q w0) t L (env ++ [v, .agg (old ++ l.map (Value.int kd)).toArray]) gs β := by
     intro old hc
     obtain ⟨q1, q2⟩ := appA_ok hd hc (cellsRs.one1 (β := β) (a := .ints kd l) rfl)
     have hs := cellsR.size d _ q2
     refine ⟨by rw [hs]; exact hsz, fun v hn => ih LA _ L _ gs β h (hv.app ?_) hL hb⟩
     rw [hs] at hn
     exact ⟨v, _, rfl, row_new hn, _, _, rfl, valR0.mk q1 q2, rfl⟩
    refine ⟨_, _, _, l.map (.int kd), hkv, by simp, hone, fun W hu j u hju => ?_, ?_⟩
    ·have hjl := (List.getElem?_eq_some_iff.1 hju).1
     obtain ⟨g, off, rfl, hg, hxg, hj⟩ := hp (by omega)
     exact ⟨_, rfl, cells_at (fun j hlt => ((Later.upto hu).cell hg hxg).trans (hj j hlt)) j u hju⟩
    cases kc with
    | none => exact fin _ hc
    | some k => exact fin _ hc
   ·exact h.elim
  ·rename_i sz' es hk
   split at h
   ·rename_i fs
    obtain ⟨rfl, ⟨h0, hl⟩, hsz, h⟩ := h
    obtain ⟨v, hkv, hr⟩ := hv.get hk
    obtain ⟨v', xs, e, ⟨ad, cap, rfl, hcap, hcl, hp⟩, hes⟩ := hr.cell rfl
    obtain rfl : v = .slice ad es.length cap := by simpa using e
    have hone : ∀ u ∈ xs, u.oneCell' = true := cellsRs.one _ _ _ hes
    have fin : ∀ old, cellsR β (.agg fs) old → (old ++ xs).length ≤ 1000000 ∧ ∀ v : Value, SliceN v ((old ++ xs).length / sz') → TWb P w0 (OutA x Q w0) t L (env ++ [v, .agg (old ++ xs).toArray]) gs β := by
     intro old hc
     have q2 : cellsR β (.agg (fs ++ es)) (old ++ xs) := by
      have hc' : cellsRs β none fs old := hc
      show cellsRs β none (fs ++ es) (old ++ xs)
      exact cellsRs.app hc' hes.nosz
     have hs := cellsR.size _ _ q2
     refine ⟨by rw [hs]; exact hsz, fun v hn => ih LA _ L _ gs β h (hv.app ?_) hL hb⟩
     rw [hs] at hn
     exact ⟨v, _, rfl, row_new hn, _, _, rfl, valR0.mk rfl q2, rfl⟩
    refine ⟨_, _, _, xs, hkv, hcl, hone, fun W hu j u hju => ?_, ?_⟩
    ·have hjl := (List.getElem?_eq_some_iff.1 hju).1
     obtain ⟨g, off, rfl, hg, hxg, hj⟩ := hp (by omega)
     exact ⟨_, rfl, cells_at (fun j hlt => ((Later.upto hu).cell hg hxg).trans (hj j hlt)) j u hju⟩
    cases kc with
    | none => exact fin _ hc
    | some k => exact fin _ hc
   ·exact h.elim
  ·exact h.elim
 | mkr new sz t ih =>
  intro LA ae L env gs β h hv hL hb v hn
  simp only [AWp, appK_eq, setK_eq, nthA_eq] at h
  obtain ⟨ps, hp, h⟩ := segsW_ok (gs := gs) h hv
  obtain ⟨c, q1, q2, h⟩ := mkC_ok h hp
  rw [catS_flat] at hn ⊢
  have hs := cellsR.size c _ q2
  rw [hs] at hn
  exact ih LA _ L _ gs β h (hv.app ⟨v, _, rfl, row_new hn, _, _, rfl, valR0.mk q1 q2, rfl⟩) hL hb
 | mkx k z t ih =>
  intro LA ae L env gs β h hv hL hb
  simp only [AWp, appK_eq, setK_eq, nthA_eq] at h
  obtain ⟨kd, m, hk, h0, h1, hh⟩ := idxA_ok h hv
  clear h
  refine ⟨kd, m, hk, h0, h1, fun v hn => ?_⟩
  split at hh
  ·rename_i kd'
   refine ih LA _ L _ gs β hh (hv.app ⟨v, _, rfl, row_new hn, _, _, rfl, valR0.mk (a := .ints kd' (List.replicate m.toNat 0)) rfl ?_, rfl⟩) hL hb
   simp only [cellsR]
   induction m.toNat with
   | zero => rfl
   | succ n ih => rw [List.replicate_succ, List.replicate_succ, List.flatten_cons, ih]; rfl
  ·rename_i hz0
   refine ih LA _ L _ gs β hh.2 (hv.app ⟨v, _, rfl, row_new hn, _, _, rfl, valR0.mk (a := .agg (List.replicate m.toNat (.lit z))) rfl ?_, rfl⟩) hL hb
   have hz1 := hh.1
   show cellsRs β none _ _
   induction m.toNat with
   | zero => rfl
   | succ n ih => rw [List.replicate_succ, List.replicate_succ, List.flatten_cons]; exact ⟨z, _, rfl, (fun _ hh => by cases hh), ⟨rfl, hz1⟩, ih⟩
 | stop =>
  intro LA ae L env gs β h hv hL hb
  exact False.elim h
 | both t u ih ih' =>
  intro LA ae L env gs β h hv hL hb
  exact ⟨ih LA ae L env gs β h.1 hv hL hb, ih' LA ae L env gs β h.2 hv hL hb⟩
 | rng kv init ks body after ihb iha =>
  intro LA ae L env gs β h hv hL hb
  simp only [AWp, appK_eq, setK_eq, nthA_eq] at h
  split at h
  ·rename_i xs hn
   obtain ⟨hxs, I, h0, h1, h2⟩ := h
   obtain ⟨zs, q1, ys, q2, q3⟩ := leavesW_ok (gs := gs) h0 hv
   refine ⟨xs, fun k us β' => Later β β' ∧ (∀ k, x k → β'.x k) ∧ ∃ zs, valsR β' zs us ∧ I k zs, hxs, ⟨Later.refl _, hb, ys, q2.ok q1, q3⟩, ?_, ?_, ?_⟩
   ·rintro k vs β' ⟨hl, _, _⟩ W hW
    obtain ⟨u, hu, hr⟩ := (hv.later hl).get hn
    obtain ⟨v', e, ad, cap, e2, hle, hlen, hp⟩ := hr.cell rfl
    obtain rfl : u = v' := by simpa using e
    subst e2
    refine ⟨ad, cap, by simp only [List.getD, hu, Option.getD_some], fun h0 => ?_⟩
    obtain ⟨g, off, ea, hg, hx', hj⟩ := hp (by simpa using h0)
    refine ⟨g, off, ea, fun j hlt => ?_⟩
    have h3 := hj j (by simpa using hlt)
    rw [(Later.upto hW).cell hg hx', h3]
    simp [List.getD, hlt]
   ·rintro k vs β' hk _ ⟨hl, hb', us, hus, hI⟩
    refine ihb _ ((ae ++ us) ++ [.int .i64 ((xs.length : Int) - 1 - k), .int .i64 (xs.getD (xs.length - 1 - k) 0)]) _ _ gs β' (h1 k us hk hI) (((hv.later hl).app hus).app ⟨_, _, rfl, (show valR0 β' (.int .i64 _) _ from by simp only [valR0, AV.isAgg]; exact rfl), _, _, rfl, (show valR0 β' (.int .i64 _) _ from by simp only [valR0, AV.isAgg]; exact rfl), rfl⟩) ((hL.later hl).push ?_) hb'
    rintro zs us2 β2 hz hl2 hb2 hI2
    exact ⟨hl.trans hl2, hb2, zs, hz, hI2⟩
   ·rintro vs β' _ ⟨hl, hb', us, hus, hI⟩
    exact iha _ (ae ++ us) _ _ gs β' (h2 us hI) ((hv.later hl).app hus) (hL.later hl) hb'
  ·exact h.elim
 | callr f args bl r n q t ih =>
  intro LA ae L env gs β h hv hL hb W hM hu
  simp only [AWp, appK_eq, setK_eq, nthA_eq] at h
  refine (callR_ok hT h hv hM hu).mono fun e w' ⟨y, v, a, e1, e2, h, hF⟩ => ?_
  rw [← hv.len] at h
  obtain ⟨us, zs, q1, ⟨hfr, q2⟩, q3, q4, q5, v0, cs0, n0, q6, q7, q8⟩ := bindR_ok (gs := gs) h e2
  cases hn : (Nat.beq zs.length n) with
  | false => rw [hn] at q2; exact q2.elim
  | true =>
   rw [hn] at q2
   simp only [Nat.beq_eq] at hn
   have e0 : env ++ ([] ++ us ++ []) = env ++ us := by simp
   have q6' := q6 []
   rw [e0] at q6'
   have hla : Later β (β.nextR W w' (env ++ us)[q.kv]?) := ⟨Nat.le_trans hu.size hF.size, fun k hk hx => ⟨(hF.block k (Nat.lt_of_lt_of_le hk hu.size)).trans (hu.block k hk hx), fun h => by
    rcases h with ⟨_, h⟩ | ⟨h, _⟩
    ·exact hx (h hk)
    ·have := hu.size; omega⟩⟩
   refine ⟨us, by rw [q1.len, hn], by rw [q3, e1], q4, hF, ⟨v0, cs0, n0, q6'.1, q6'.2, q7, q8⟩, by simpa using q5, ?_⟩
   exact ih LA (ae ++ zs) L _ gs _ q2 ((hv.later hla).app (q1.free hfr)) (hL.later hla) fun k hk => .inl ⟨by have := hx k hk; have := hM.1.below.size; omega, fun _ => hb k hk⟩

theorem con_tree (hT : T.OK P) {f : FuncId} {fn : Func} {c : Code} (orc : Orc) (ps : List Leaf) (n : Nat) {t : Tree} {g : Trans} (hf : P.funcs[f]? = some fn) (hb : fn.body = some c)
 (hc : compF P fn orc c (symIn ps fn.ntmps n) = some t) (h : ∀ zs Q, g zs Q → bindLs 0 ps zs fun ae => bif Nat.beq ae.length n then AWp P T Q t [] ae else False) (hgd : goodC P orc.ords c = true := by exact goodC_nil _ _) (hbk : ∀ x, orc.rng = some x → IsBack P x.1 := by exact rng_no rfl) : Con P f g := by
 intro w x vals zs Q hx hv hg
 obtain ⟨env, ae, q1, q23, q4⟩ := bindLs_ok (env := []) (gs := []) (vs := []) (h zs Q hg) rfl hv
 have q2 : ae.length = n := by
  cases hn : Nat.beq ae.length n with
  | false => rw [hn] at q23; exact q23.elim
  | true => simpa using hn
 have q3 : AWp P T Q t [] ae := by
  have : Nat.beq ae.length n = true := by simpa using q2
  rw [this] at q23; exact q23
 have q4' := q4 []
 simp only [List.nil_append, List.append_nil] at q4'
 have hl : env.length = n := by rw [q1.len, q2]
 subst hl
 exact calls_treeB orc ps env x hf hb hc (by rw [q4'.1]) q4'.2 (awp_ok hT hx t [] ae [] env [] ⟨w, x⟩ q3 q1 ⟨rfl, by simp⟩ fun k hk => hk) hgd hbk
end
end Go.Proofs.Ytdpongijmmdnoaa
/- Contracts in plain words: the field, and the document's. -/
namespace Go.Proofs.Ytdpongijmmdnoaa
open Go.RowKit FdP FdP.Ch

def AV.el? : AV → Option F
 | .el x => some x
 | .lit l => bif l.length == 8 && l.all (vsame (.int .u64 0)) then some 0 else none
 | _ => none
def AV.i64? : AV → Option Int
 | .int .i64 n => some n
 | _ => none
def AV.arr? : AV → Option (List Int)
 | .ints .u8 l => some l
 | .lit l => match litInts l with
  | some (.u8, m) => some m
  | _ => none
 | _ => none
def I64 (n : Int) : Prop := -9223372036854775808 ≤ n ∧ n < 9223372036854775808

section
variable {β : Base}
theorem el_inv {a : AV} {x : F} {v : Value} (h : a.el? = some x) (hv : valR0 β a v) : ∃ l, v = AG (us l) ∧ E l x := by
 unfold AV.el? at h
 split at h
 ·cases h
  obtain ⟨cs, rfl, l, rfl, hE⟩ := hv.agg rfl
  exact ⟨l, rfl, hE⟩
 ·rename_i l
  cases hc : (l.length == 8 && l.all (vsame (.int .u64 0))) with
  | false => rw [hc] at h; cases h
  | true =>
   rw [hc] at h
   cases h
   simp only [Bool.and_eq_true, beq_iff_eq] at hc
   obtain ⟨cs, rfl, e, _⟩ := hv.agg rfl
   subst e
   refine ⟨zE, ?_, zero_E⟩
   rw [all_zero hc.2, hc.1]; rfl
 ·cases h
theorem i64_inv {a : AV} {n : Int} {v : Value} (h : a.i64? = some n) (hv : valR0 β a v) : v = .int .i64 n := by
 unfold AV.i64? at h
 split at h
 ·cases h; exact hv.int_inv
 ·cases h
theorem el_mk {l : List Int} {x : F} (h : E l x) : valR β (.el x) (AG (us l)) := (valR0.mk (a := .el x) rfl ⟨l, rfl, h⟩ : valR0 β (.el x) _).notup
theorem fg_mk (x : F) : valR β (.fg x) (FG x) := (valR0.mk (a := .fg x) rfl rfl : valR0 β (.fg x) _).notup
theorem bool_mk' (b : Bool) : valR β (.bool b) (.bool b) := valR0.bool_mk b
theorem arr_inv {a : AV} {l : List Int} {v : Value} (h : a.arr? = some l) (hv : valR0 β a v) : v = AG (ys l) := by
 unfold AV.arr? at h
 split at h
 ·cases h
  obtain ⟨cs, rfl, hc⟩ := hv.agg rfl
  simp only [cellsR] at hc
  subst hc; rfl
 ·split at h
  ·rename_i m hm
   cases h
   obtain ⟨cs, rfl, e, _⟩ := hv.agg rfl
   subst e
   rw [litInts_ok hm]; rfl
  ·cases h
 ·cases h
end

def tE1 (f : F → F) : Trans := fun zs Q => match zs with
 | [a] => (match a.el? with
  | some x => Q (.el (f x))
  | none => False)
 | _ => False
def tE2 (f : F → F → F) : Trans := fun zs Q => match zs with
 | [a, b] => (match a.el?, b.el? with
  | some x, some y => Q (.el (f x y))
  | _, _ => False)
 | _ => False
def tEi (f : F → Int → F) : Trans := fun zs Q => match zs with
 | [a, b] => (match a.el?, b.i64? with
  | some x, some n => I64 n ∧ Q (.el (f x n))
  | _, _ => False)
 | _ => False
def tF1 (f : F → F) : Trans := fun zs Q => match zs with
 | [a] => (match a.fg? with
  | some x => Q (.fg (f x))
  | none => False)
 | _ => False
def tF2 (f : F → F → F) : Trans := fun zs Q => match zs with
 | [a, b] => (match a.fg?, b.fg? with
  | some x, some y => Q (.fg (f x y))
  | _, _ => False)
 | _ => False
def tFi (f : Int → F) : Trans := fun zs Q => match zs with
 | [b] => (match b.i64? with
  | some n => I64 n ∧ Q (.fg (f n))
  | none => False)
 | _ => False
def tIs : Trans := fun zs Q => match zs with
 | [a, b] => (match a.el?, b.fg? with
  | some x, some y => Q (.bool (dec (x = y)))
  | _, _ => False)
 | _ => False
def tTrue : Trans := fun zs Q => match zs with
 | [] => Q (.bool true)
 | _ => False
def tMade : Trans := fun zs Q => match zs with
 | [a] => (match a.arr? with
  | some l => (l.length = 56 ∧ By l) ∧ Q (.tup [.el (z (bval l)), .bool true])
  | none => False)
 | _ => False
def tPlain : Trans := fun zs Q => match zs with
 | [a] => (match a.arr? with
  | some l => (l.length = 56 ∧ By l) ∧ Q (.fg (z (bval l)))
  | none => False)
 | _ => False
section
variable {P : Program} {fn : FuncId}
theorem con_E1 {f : F → F} (h : ∀ {l : List Int} {a : F}, E l a → ∀ w, Calls P fn #[AG (us l)] w (OutE (f a) w)) : Con P fn (tE1 f) := by
 intro w x vals zs Q hx hv hg
 unfold tE1 at hg
 split at hg
 ·rename_i a0
  obtain ⟨v0, u0, e0, r0, q0⟩ := hv
  simp only [valsR] at q0
  split at hg
  ·rename_i x0 g0
   obtain ⟨l0, rfl, h0⟩ := el_inv g0 r0
   subst e0 q0
   exact (h h0 w).mono fun e w' ⟨l, he, hE, hF⟩ => OutA.mk he (el_mk hE) hg hF
  ·exact hg.elim
 ·exact hg.elim
theorem con_E2 {f : F → F → F} (h : ∀ {l m : List Int} {a b : F}, E l a → E m b → ∀ w, Calls P fn #[AG (us l), AG (us m)] w (OutE (f a b) w)) : Con P fn (tE2 f) := by
 intro w x vals zs Q hx hv hg
 unfold tE2 at hg
 split at hg
 ·rename_i a0 a1
  obtain ⟨v0, u0, e0, r0, q0⟩ := hv
  obtain ⟨v1, u1, e1, r1, q1⟩ := q0
  simp only [valsR] at q1
  split at hg
  ·rename_i x0 x1 g0 g1
   obtain ⟨l0, rfl, h0⟩ := el_inv g0 r0
   obtain ⟨l1, rfl, h1⟩ := el_inv g1 r1
   subst e0 e1 q1
   exact (h h0 h1 w).mono fun e w' ⟨l, he, hE, hF⟩ => OutA.mk he (el_mk hE) hg hF
  ·exact hg.elim
 ·exact hg.elim
theorem con_Ei {f : F → Int → F} (h : ∀ {l : List Int} {a : F}, E l a → ∀ (n : Int), -9223372036854775808 ≤ n → n < 9223372036854775808 → ∀ w, Calls P fn #[AG (us l), .int .i64 n] w (OutE (f a n) w)) : Con P fn (tEi f) := by
 intro w x vals zs Q hx hv hg
 unfold tEi at hg
 split at hg
 ·rename_i a0 a1
  obtain ⟨v0, u0, e0, r0, q0⟩ := hv
  obtain ⟨v1, u1, e1, r1, q1⟩ := q0
  simp only [valsR] at q1
  split at hg
  ·rename_i x0 x1 g0 g1
   obtain ⟨l0, rfl, h0⟩ := el_inv g0 r0
   obtain rfl := i64_inv g1 r1
   subst e0 e1 q1
   exact (h h0 x1 hg.1.1 hg.1.2 w).mono fun e w' ⟨l, he, hE, hF⟩ => OutA.mk he (el_mk hE) hg.2 hF
  ·exact hg.elim
 ·exact hg.elim
theorem con_F1 {f : F → F} (h : ∀ (a : F) w, Calls P fn #[FG a] w (OutV (FG (f a)) w)) : Con P fn (tF1 f) := by
 intro w x vals zs Q hx hv hg
 unfold tF1 at hg
 split at hg
 ·rename_i a0
  obtain ⟨v0, u0, e0, r0, q0⟩ := hv
  simp only [valsR] at q0
  split at hg
  ·rename_i x0 g0
   obtain rfl := fg_inv g0 r0
   subst e0 q0
   exact (h x0 w).mono fun e w' ⟨he, hF⟩ => OutA.mk he (fg_mk _) hg hF
  ·exact hg.elim
 ·exact hg.elim
theorem con_F2 {f : F → F → F} (h : ∀ (a b : F) w, Calls P fn #[FG a, FG b] w (OutV (FG (f a b)) w)) : Con P fn (tF2 f) := by
 intro w x vals zs Q hx hv hg
 unfold tF2 at hg
 split at hg
 ·rename_i a0 a1
  obtain ⟨v0, u0, e0, r0, q0⟩ := hv
  obtain ⟨v1, u1, e1, r1, q1⟩ := q0
  simp only [valsR] at q1
  split at hg
  ·rename_i x0 x1 g0 g1
   obtain rfl := fg_inv g0 r0
   obtain rfl := fg_inv g1 r1
   subst e0 e1 q1
   exact (h x0 x1 w).mono fun e w' ⟨he, hF⟩ => OutA.mk he (fg_mk _) hg hF
  ·exact hg.elim
 ·exact hg.elim
theorem con_Fi {f : Int → F} (h : ∀ (n : Int), -9223372036854775808 ≤ n → n < 9223372036854775808 → ∀ w, Calls P fn #[.int .i64 n] w (OutV (FG (f n)) w)) : Con P fn (tFi f) := by
 intro w x vals zs Q hx hv hg
 unfold tFi at hg
 split at hg
 ·rename_i a0
  obtain ⟨v0, u0, e0, r0, q0⟩ := hv
  simp only [valsR] at q0
  split at hg
  ·rename_i x0 g0
   obtain rfl := i64_inv g0 r0
   subst e0 q0
   exact (h x0 hg.1.1 hg.1.2 w).mono fun e w' ⟨he, hF⟩ => OutA.mk he (fg_mk _) hg.2 hF
  ·exact hg.elim
 ·exact hg.elim
theorem con_Is (h : ∀ {l : List Int} {a : F}, E l a → ∀ (b : F) w, Calls P fn #[AG (us l), FG b] w (OutV (.bool (decide (a = b))) w)) : Con P fn tIs := by
 intro w x vals zs Q hx hv hg
 unfold tIs at hg
 split at hg
 ·rename_i a0 a1
  obtain ⟨v0, u0, e0, r0, q0⟩ := hv
  obtain ⟨v1, u1, e1, r1, q1⟩ := q0
  simp only [valsR] at q1
  split at hg
  ·rename_i x0 x1 g0 g1
   obtain ⟨l0, rfl, h0⟩ := el_inv g0 r0
   obtain rfl := fg_inv g1 r1
   subst e0 e1 q1
   simp only [dec_eq] at hg
   exact (h h0 x1 w).mono fun e w' ⟨he, hF⟩ => OutA.mk he (bool_mk' _) hg hF
  ·exact hg.elim
 ·exact hg.elim
theorem con_True (h : ∀ w, Calls P fn #[] w (OutV (.bool true) w)) : Con P fn tTrue := by
 intro w x vals zs Q hx hv hg
 unfold tTrue at hg
 split at hg
 ·simp only [valsR] at hv
  subst hv
  exact (h w).mono fun e w' ⟨he, hF⟩ => OutA.mk he (bool_mk' _) hg hF
 ·exact hg.elim
theorem con_Made (h : ∀ (b : List Int), b.length = 56 → By b → ∀ w, Calls P fn #[AG (ys b)] w fun e w' => ∃ l, e = .returned (.tuple #[AG (us l), .bool true]) ∧ E l (z (bval b)) ∧ Fut w w') : Con P fn tMade := by
 intro w x vals zs Q hx hv hg
 unfold tMade at hg
 split at hg
 ·rename_i a0
  obtain ⟨v0, u0, e0, r0, q0⟩ := hv
  simp only [valsR] at q0
  split at hg
  ·rename_i x0 g0
   obtain rfl := arr_inv g0 r0
   subst e0 q0
   exact (h x0 hg.1.1 hg.1.2 w).mono fun e w' ⟨m, he, hE, hF⟩ => OutA.mk (a := .tup [.el (z (bval x0)), .bool true]) he ⟨_, rfl, _, _, rfl, el_mk hE, _, _, rfl, valR0.mk1 rfl rfl, rfl⟩ hg.2 hF
  ·exact hg.elim
 ·exact hg.elim
theorem con_Plain (h : ∀ (b : List Int), b.length = 56 → By b → ∀ w, Calls P fn #[AG (ys b)] w (OutV (FG (z (bval b))) w)) : Con P fn tPlain := by
 intro w x vals zs Q hx hv hg
 unfold tPlain at hg
 split at hg
 ·rename_i a0
  obtain ⟨v0, u0, e0, r0, q0⟩ := hv
  simp only [valsR] at q0
  split at hg
  ·rename_i x0 g0
   obtain rfl := arr_inv g0 r0
   subst e0 q0
   exact (h x0 hg.1.1 hg.1.2 w).mono fun e w' ⟨he, hF⟩ => OutA.mk he (fg_mk _) hg.2 hF
  ·exact hg.elim
 ·exact hg.elim
end

theorem cT {c : Bool} {A B : Prop} (h : c = true) (a : A) : Sel c A B := ⟨fun _ => a, fun g => by rw [h] at g; cases g⟩
theorem cF {c : Bool} {A B : Prop} (h : c = false) (b : B) : Sel c A B := ⟨fun g => by (rw [h] at g; cases g), fun _ => b⟩
theorem cTe {p : Prop} {A B : Prop} (h : p) (a : A) : Sel (dec p) A B := cT (dec_true h) a
theorem cFe {p : Prop} {A B : Prop} (h : ¬ p) (b : B) : Sel (dec p) A B := cF (dec_false h) b
theorem cTd {p : Prop} [Decidable p] {A B : Prop} (h : p) (a : A) : Sel (decide p) A B := cT (decide_eq_true h) a
theorem cFd {p : Prop} [Decidable p] {A B : Prop} (h : ¬ p) (b : B) : Sel (decide p) A B := cF (decide_eq_false h) b
theorem cN {c : Bool} {A B : Prop} (h : Sel c B A) : Sel (!c) A B := by
 cases c
 ·exact ⟨fun _ => h.no rfl, fun g => by cases g⟩
 ·exact ⟨fun g => (by cases g), fun _ => h.yes rfl⟩
theorem cEq {a b : Bool} {A B : Prop} (h : a = b) (x : A) : Sel (a == b) A B := cT (by rw [h]; cases b <;> rfl) x
theorem tab_nil (P : Program) : Tab.OK P [] := fun p hp => by cases hp
theorem tab_cons {P : Program} {p : FuncId × Trans} {t : Tab} (h : Con P p.1 p.2) (ht : Tab.OK P t) : Tab.OK P (p :: t) := fun q hq => by
 rcases List.mem_cons.1 hq with rfl | hq
 ·exact h
 ·exact ht q hq
theorem law_tree {P : Program} {T : Tab} (hT : T.OK P) {f : FuncId} {fn : Func} {c : Code} (orc : Orc) (ps : List Leaf) (env : List Value) (ae : List AV) {args : Array Value} {w : World} {t : Tree} (hf : P.funcs[f]? = some fn) (hb : fn.body = some c)
 (hc : compF P fn orc c (symIn ps fn.ntmps env.length) = some t) (ha : args = (ps.map (Leaf.den env [])).toArray) (ok : ∀ x ∈ ps, x.OK env []) (hv : valsR ⟨w, fun _ => False⟩ ae env) (hgd : goodC P orc.ords c = true)
 (h : AWp P T (fun a => a = .bool true) t [] ae) (hbk : ∀ x, orc.rng = some x → IsBack P x.1 := by exact rng_no rfl) : Calls P f args w (OutV (.bool true) w) := by
 refine (calls_treeB orc ps env (fun _ => False) hf hb hc ha ok (awp_ok (Q := fun a => a = .bool true) hT (fun k hk => hk.elim) t [] ae [] env [] ⟨w, fun _ => False⟩ h hv ⟨rfl, by simp⟩ fun k hk => hk) hgd hbk).mono ?_
 rintro e w' ⟨v, a, he, hr, rfl, hF⟩
 have hr' : valR ⟨w', fun _ => False⟩ (.bool true) v := hr.R
 rw [hr'.bool_inv] at he
 exact ⟨he, hF⟩
theorem arr_val {β : Base} (l : List Int) : valR0 β (.ints .u8 l) (AG (ys l)) := valR0.mk (a := .ints .u8 l) rfl rfl
theorem ok_arr {env : List Value} {k n : Nat} {l : List Int} (h : env[k]? = some (AG (ys l))) (hl : l.length = n) : Leaf.OK env [] (.agg [.whole k n]) := by
 intro s hs
 simp only [List.mem_singleton] at hs; subst hs
 exact ⟨ys l, h, by simpa using hl, ys_one l⟩
theorem ok_one {env : List Value} {k : Nat} {v : Value} (h : env[k]? = some v) (h1 : v.oneCell' = true) : Leaf.OK env [] (.atom (.var k)) :=
 ⟨(List.getElem?_eq_some_iff.1 h).1, by simp only [List.getD, h]; exact h1⟩
def tb_made : FuncId × Trans := (11, tMade)
theorem tb_made_ok : Con Try.prog tb_made.1 tb_made.2 := con_Made made_c
def tb_plain : FuncId × Trans := (12, tPlain)
theorem tb_plain_ok : Con Try.prog tb_plain.1 tb_plain.2 := con_Plain plain_c
def tb_is : FuncId × Trans := (13, tIs)
theorem tb_is_ok : Con Try.prog tb_is.1 tb_is.2 := con_Is fun h b w => is_c h b w
def tb_awake4 : FuncId × Trans := (20, tTrue)
theorem tb_awake4_ok : Con Try.prog tb_awake4.1 tb_awake4.2 := con_True awake_c
def tb_add : FuncId × Trans := (14, (tE2 (· + ·)))
theorem tb_add_ok : Con Try.prog tb_add.1 tb_add.2 := con_E2 add_c
def tb_sub : FuncId × Trans := (16, (tE2 (· - ·)))
theorem tb_sub_ok : Con Try.prog tb_sub.1 tb_sub.2 := con_E2 sub_c
def tb_mul : FuncId × Trans := (34, (tE2 (· * ·)))
theorem tb_mul_ok : Con Try.prog tb_mul.1 tb_mul.2 := con_E2 mul_c
def tb_square : FuncId × Trans := (38, (tE1 fun x => x * x))
theorem tb_square_ok : Con Try.prog tb_square.1 tb_square.2 := con_E1 square_c
def tb_neg : FuncId × Trans := (18, (tE1 (- ·)))
theorem tb_neg_ok : Con Try.prog tb_neg.1 tb_neg.2 := con_E1 neg_c
def tb_times : FuncId × Trans := (39, (tEi fun x n => x * z n))
theorem tb_times_ok : Con Try.prog tb_times.1 tb_times.2 := con_Ei times_c
def tb_radd : FuncId × Trans := (15, (tF2 (· + ·)))
theorem tb_radd_ok : Con Try.prog tb_radd.1 tb_radd.2 := con_F2 radd_c
def tb_rsub : FuncId × Trans := (17, (tF2 (· - ·)))
theorem tb_rsub_ok : Con Try.prog tb_rsub.1 tb_rsub.2 := con_F2 rsub_c
def tb_rmul : FuncId × Trans := (37, (tF2 (· * ·)))
theorem tb_rmul_ok : Con Try.prog tb_rmul.1 tb_rmul.2 := con_F2 rmul_c
def tb_rneg : FuncId × Trans := (19, (tF1 (- ·)))
theorem tb_rneg_ok : Con Try.prog tb_rneg.1 tb_rneg.2 := con_F1 rneg_c
def tb_rint : FuncId × Trans := (36, (tFi z))
theorem tb_rint_ok : Con Try.prog tb_rint.1 tb_rint.2 := con_Fi rint_c
end Go.Proofs.Ytdpongijmmdnoaa
