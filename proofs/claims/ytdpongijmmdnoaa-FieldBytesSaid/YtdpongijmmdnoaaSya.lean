/- Values told by variables: what a call's slots and own blocks hold, as terms over the values that are not looked into. Over any program. -/
import Derived.Test.YtdpongijmmdnoaaKri
namespace Go.Proofs.Ytdpongijmmdnoaa
open Go.RowKit

/-- one cell's value: a constant, a variable, a cell of a variable, a place of an own block, a slice of one, a closure over such places, a place told by a variable index, a slice whose length a variable tells -/
inductive Atom where
  | const (v : Value)
  | var (k : Nat)
  | cell (k i : Nat)
  | ptr (b off : Nat)
  | slc (b off len cap : Nat)
  | clo (fn : Fn) (caps : List (Nat × Nat))
  | iptr (b off k sc : Nat)
  | slcx (b off k : Nat)
/-- cells in a row: all of a variable's, some of them, constants, one, those of a variable of unknown length, those of a variable of which nothing is known -/
inductive Seg where
  | whole (k n : Nat)
  | part (k off n : Nat)
  | lit (l : List Value)
  | one (a : Atom)
  | rest (k : Nat)
  | junk (k : Nat)
inductive Leaf where
  | atom (a : Atom)
  | agg (l : List Seg)
inductive SV where
  | any
  | leaf (x : Leaf)
  | tup (l : List Leaf)
abbrev Blk := List Seg × TypeId

def cellsAt (env : List Value) (k : Nat) : List Value := (env.getD k undef).cells.toList
def intN : Value → Nat
  | .int _ m => m.toNat
  | _ => 0
def lenN : Value → Nat
  | .slice _ l _ => l
  | _ => 0
def Atom.den (env : List Value) (gs : List Nat) : Atom → Value
  | .const v => v
  | .var k => env.getD k undef
  | .cell k i => (cellsAt env k).getD i undef
  | .ptr b off => .pointer (some ⟨gs.getD b 0, off, none⟩)
  | .slc b off len cap => .slice (some ⟨gs.getD b 0, off, none⟩) len cap
  | .clo fn caps => .func fn #[] (caps.map fun c => Value.pointer (some ⟨gs.getD c.1 0, c.2, none⟩)).toArray
  | .iptr b off k sc => .pointer (some ⟨gs.getD b 0, off + intN (env.getD k undef) * sc, none⟩)
  | .slcx b off k => match env.getD k undef with
    | .slice _ l c => .slice (some ⟨gs.getD b 0, off, none⟩) l c
    | _ => .slice none 0 0
def Seg.den (env : List Value) (gs : List Nat) : Seg → List Value
  | .whole k _ => cellsAt env k
  | .part k off n => ((cellsAt env k).drop off).take n
  | .lit l => l
  | .one a => [a.den env gs]
  | .rest k => cellsAt env k
  | .junk k => cellsAt env k
def flat (env : List Value) (gs : List Nat) (l : List Seg) : List Value := l.flatMap (Seg.den env gs)
def catS (env : List Value) (gs : List Nat) : List Seg → List Value
  | [] => []
  | [s] => s.den env gs
  | s :: r => s.den env gs ++ catS env gs r
theorem catS_flat (env : List Value) (gs : List Nat) : ∀ l : List Seg, catS env gs l = flat env gs l
  | [] => rfl
  | [s] => by simp [catS, flat]
  | s :: t :: r => by rw [catS, catS_flat env gs (t :: r)]; simp [flat]; simp
def Leaf.den (env : List Value) (gs : List Nat) : Leaf → Value
  | .atom a => a.den env gs
  | .agg l => .agg (catS env gs l).toArray
def SV.den (env : List Value) (gs : List Nat) : SV → Value
  | .any => undef
  | .leaf x => x.den env gs
  | .tup l => .tuple (l.map (Leaf.den env gs)).toArray

/-- variable k is a struct or an array of n cells -/
def AggN (env : List Value) (k n : Nat) : Prop := ∃ cs : List Value, env[k]? = some (.agg cs.toArray) ∧ cs.length = n ∧ ∀ x ∈ cs, x.oneCell' = true
theorem AggN.cells {env : List Value} {k n : Nat} (h : AggN env k n) : (cellsAt env k).length = n ∧ ∀ x ∈ cellsAt env k, x.oneCell' = true := by
  obtain ⟨cs, h1, h2, h3⟩ := h
  have : cellsAt env k = cs := by simp [cellsAt, List.getD, h1, Value.cells]
  rw [this]; exact ⟨h2, h3⟩
theorem AggN.lt {env : List Value} {k n : Nat} (h : AggN env k n) : k < env.length := by
  obtain ⟨cs, h1, _⟩ := h
  exact (List.getElem?_eq_some_iff.1 h1).1

def Atom.OK (env : List Value) (gs : List Nat) : Atom → Prop
  | .const v => v.oneCell' = true
  | .var k => k < env.length ∧ (env.getD k undef).oneCell' = true
  | .cell k i => ∃ n, AggN env k n ∧ i < n
  | .ptr b _ => b < gs.length
  | .slc b _ _ _ => b < gs.length
  | .clo _ caps => ∀ c ∈ caps, c.1 < gs.length
  | .iptr b _ k _ => b < gs.length ∧ k < env.length
  | .slcx b _ k => b < gs.length ∧ k < env.length
def Seg.OK (env : List Value) (gs : List Nat) : Seg → Prop
  | .whole k n => AggN env k n
  | .part k off n => ∃ m, AggN env k m ∧ off + n ≤ m
  | .lit l => ∀ x ∈ l, x.oneCell' = true
  | .one a => a.OK env gs
  | .rest k => ∃ m, AggN env k m
  | .junk k => ∃ cs : List Value, env[k]? = some (.agg cs.toArray)
def Leaf.OK (env : List Value) (gs : List Nat) : Leaf → Prop
  | .atom a => a.OK env gs
  | .agg l => ∀ s ∈ l, s.OK env gs
def SV.OK (env : List Value) (gs : List Nat) : SV → Prop
  | .any => True
  | .leaf x => x.OK env gs
  | .tup l => ∀ x ∈ l, x.OK env gs

section
variable {env env' : List Value} {gs gs' : List Nat}

theorem getD_pre (h : env <+: env') {k : Nat} (hk : k < env.length) (d : Value) : env'.getD k d = env.getD k d := by
  obtain ⟨e, rfl⟩ := h
  simp [List.getD, List.getElem?_append_left hk]
theorem getDn_pre (h : gs <+: gs') {k : Nat} (hk : k < gs.length) (d : Nat) : gs'.getD k d = gs.getD k d := by
  obtain ⟨e, rfl⟩ := h
  simp [List.getD, List.getElem?_append_left hk]
theorem cellsAt_pre (h : env <+: env') {k : Nat} (hk : k < env.length) : cellsAt env' k = cellsAt env k := by unfold cellsAt; rw [getD_pre h hk]
theorem AggN.pre (h : env <+: env') {k n : Nat} (ha : AggN env k n) : AggN env' k n := by
  have hl := ha.lt
  obtain ⟨cs, h1, h2⟩ := ha
  obtain ⟨e, rfl⟩ := h
  exact ⟨cs, by rw [List.getElem?_append_left hl]; exact h1, h2⟩

theorem Atom.pre (h : env <+: env') (g : gs <+: gs') {a : Atom} (ha : a.OK env gs) : a.OK env' gs' ∧ a.den env' gs' = a.den env gs := by
  have hl := h.length_le
  have gl := g.length_le
  cases a with
  | const v => exact ⟨ha, rfl⟩
  | var k => exact ⟨⟨by have := ha.1; omega, by rw [getD_pre h ha.1]; exact ha.2⟩, getD_pre h ha.1 _⟩
  | cell k i =>
    obtain ⟨n, h1, h2⟩ := ha
    refine ⟨⟨n, h1.pre h, h2⟩, ?_⟩
    simp only [Atom.den, cellsAt_pre h h1.lt]
  | ptr b off => exact ⟨Nat.lt_of_lt_of_le ha gl, by simp only [Atom.den]; rw [getDn_pre g ha]⟩
  | slc b off len cap => exact ⟨Nat.lt_of_lt_of_le ha gl, by simp only [Atom.den]; rw [getDn_pre g ha]⟩
  | clo fn caps =>
    refine ⟨fun c hc => Nat.lt_of_lt_of_le (ha c hc) gl, ?_⟩
    simp only [Atom.den]
    congr 2
    exact List.map_congr_left fun c hc => by rw [getDn_pre g (ha c hc)]
  | iptr b off k sc => exact ⟨⟨Nat.lt_of_lt_of_le ha.1 gl, by have := ha.2; omega⟩, by simp only [Atom.den]; rw [getDn_pre g ha.1, getD_pre h ha.2]⟩
  | slcx b off k => exact ⟨⟨Nat.lt_of_lt_of_le ha.1 gl, by have := ha.2; omega⟩, by simp only [Atom.den]; rw [getDn_pre g ha.1, getD_pre h ha.2]⟩
theorem Seg.pre (h : env <+: env') (g : gs <+: gs') {s : Seg} (hs : s.OK env gs) : s.OK env' gs' ∧ s.den env' gs' = s.den env gs := by
  cases s with
  | whole k n => exact ⟨AggN.pre h hs, cellsAt_pre h (AggN.lt hs)⟩
  | part k off n => obtain ⟨m, h1, h2⟩ := hs; exact ⟨⟨m, h1.pre h, h2⟩, by simp only [Seg.den, cellsAt_pre h h1.lt]⟩
  | lit l => exact ⟨hs, rfl⟩
  | one a => obtain ⟨h1, h2⟩ := Atom.pre h g hs; exact ⟨h1, by simp only [Seg.den, h2]⟩
  | rest k => obtain ⟨m, h1⟩ := hs; exact ⟨⟨m, h1.pre h⟩, cellsAt_pre h h1.lt⟩
  | junk k =>
    obtain ⟨cs, h1⟩ := hs
    have hl := (List.getElem?_eq_some_iff.1 h1).1
    refine ⟨⟨cs, ?_⟩, cellsAt_pre h hl⟩
    obtain ⟨e, rfl⟩ := h
    rw [List.getElem?_append_left hl]; exact h1
theorem flat_pre (h : env <+: env') (g : gs <+: gs') {l : List Seg} (hl : ∀ s ∈ l, s.OK env gs) : (∀ s ∈ l, s.OK env' gs') ∧ flat env' gs' l = flat env gs l := by
  refine ⟨fun s hs => (Seg.pre h g (hl s hs)).1, ?_⟩
  unfold flat
  induction l with
  | nil => rfl
  | cons x r ih => simp only [List.flatMap_cons, (Seg.pre h g (hl x (by simp))).2, ih fun s hs => hl s (List.mem_cons_of_mem _ hs)]
theorem Leaf.pre (h : env <+: env') (g : gs <+: gs') {x : Leaf} (hx : x.OK env gs) : x.OK env' gs' ∧ x.den env' gs' = x.den env gs := by
  cases x with
  | atom a => exact Atom.pre h g hx
  | agg l => obtain ⟨h1, h2⟩ := flat_pre h g hx; exact ⟨h1, by simp only [Leaf.den, catS_flat, h2]⟩
theorem SV.pre (h : env <+: env') (g : gs <+: gs') {x : SV} (hx : x.OK env gs) : x.OK env' gs' ∧ x.den env' gs' = x.den env gs := by
  cases x with
  | any => exact ⟨trivial, rfl⟩
  | leaf x => exact Leaf.pre h g hx
  | tup l =>
    refine ⟨fun y hy => (Leaf.pre h g (hx y hy)).1, ?_⟩
    simp only [SV.den]
    congr 2
    exact List.map_congr_left fun y hy => (Leaf.pre h g (hx y hy)).2

theorem Atom.one {a : Atom} (ha : a.OK env gs) : (a.den env gs).oneCell' = true := by
  cases a with
  | const v => exact ha
  | var k => exact ha.2
  | cell k i =>
    obtain ⟨n, h1, h2⟩ := ha
    obtain ⟨h3, h4⟩ := h1.cells
    refine h4 _ ?_
    simp only [Atom.den, List.getD]
    rw [List.getElem?_eq_getElem (by omega)]
    exact List.getElem_mem _
  | ptr b off => rfl
  | slc b off len cap => rfl
  | clo fn caps => rfl
  | iptr b off k sc => rfl
  | slcx b off k => simp only [Atom.den]; split <;> rfl
/-- each of its cells is of one cell -/
def Seg.clean : Seg → Bool
  | .junk _ => false
  | _ => true
theorem Seg.ones {s : Seg} (hs : s.OK env gs) (hc : s.clean = true) : ∀ x ∈ s.den env gs, x.oneCell' = true := by
  cases s with
  | whole k n => exact (AggN.cells hs).2
  | part k off n => obtain ⟨m, h1, _⟩ := hs; exact fun x hx => h1.cells.2 x (List.mem_of_mem_drop (List.mem_of_mem_take hx))
  | lit l => exact hs
  | one a => intro x hx; simp only [Seg.den, List.mem_singleton] at hx; subst hx; exact Atom.one hs
  | rest k => obtain ⟨m, h1⟩ := hs; exact h1.cells.2
  | junk k => cases hc
theorem flat_ones {l : List Seg} (hl : ∀ s ∈ l, s.OK env gs) (hc : ∀ s ∈ l, s.clean = true) : ∀ x ∈ flat env gs l, x.oneCell' = true := by
  intro x hx
  obtain ⟨s, hs, hx⟩ := List.mem_flatMap.1 hx
  exact Seg.ones (hl s hs) (hc s hs) x hx
end

/-- how many cells; of 'rest' it is not known -/
def Seg.len : Seg → Nat
  | .whole _ n => n
  | .part _ _ n => n
  | .lit l => l.length
  | .one _ => 1
  | .rest _ => 0
  | .junk _ => 0
def Seg.known : Seg → Bool
  | .rest _ => false
  | .junk _ => false
  | _ => true
theorem Seg.known_clean {s : Seg} (h : s.known = true) : s.clean = true := by cases s <;> first | rfl | cases h
def segsLen (l : List Seg) : Nat := (l.map Seg.len).sum
def Seg.sub (s : Seg) (o m : Nat) : Seg :=
  match s with
  | .whole k n => if o == 0 && m == n then .whole k n else .part k o m
  | .part k off n => if o == 0 && m == n then .part k off n else .part k (off + o) m
  | .lit l => .lit ((l.drop o).take m)
  | s => s
/-- n cells from off on -/
def cutS : List Seg → Nat → Nat → Option (List Seg)
  | [], _, n => if n == 0 then some [] else none
  | s :: r, off, n =>
    if n == 0 then some [] else
    if !s.known then none else
    if s.len ≤ off then cutS r (off - s.len) n
    else (cutS r 0 (n - min n (s.len - off))).map (s.sub off (min n (s.len - off)) :: ·)
/-- all cells but the first n -/
def dropS : List Seg → Nat → Option (List Seg)
  | [], n => if n == 0 then some [] else none
  | s :: r, n =>
    if n == 0 then some (s :: r) else
    if !s.known then none else
    if s.len ≤ n then dropS r (n - s.len) else some (s.sub n (s.len - n) :: r)
def putS (l : List Seg) (off : Nat) (new : List Seg) (n : Nat) : Option (List Seg) :=
  (cutS l 0 off).bind fun a => (dropS l (off + n)).map fun b => a ++ (new ++ b)

section
variable {env : List Value} {gs : List Nat}
theorem Seg.len_den {s : Seg} (hk : s.known = true) (hs : s.OK env gs) : (s.den env gs).length = s.len := by
  cases s with
  | whole k n => exact (AggN.cells hs).1
  | part k off n => obtain ⟨m, h1, h2⟩ := hs; have := h1.cells.1; simp only [Seg.den, Seg.len, List.length_take, List.length_drop]; omega
  | lit l => rfl
  | one a => rfl
  | rest k => cases hk
  | junk k => cases hk
theorem flat_len {l : List Seg} (hk : ∀ s ∈ l, s.known = true) (hl : ∀ s ∈ l, s.OK env gs) : (flat env gs l).length = segsLen l := by
  induction l with
  | nil => rfl
  | cons s r ih =>
    simp only [flat, List.flatMap_cons, List.length_append, segsLen, List.map_cons, List.sum_cons] at ih ⊢
    rw [Seg.len_den (hk s (by simp)) (hl s (by simp)), ih (fun s hs => hk s (List.mem_cons_of_mem _ hs)) fun s hs => hl s (List.mem_cons_of_mem _ hs)]
theorem Seg.sub_den {s : Seg} {o m : Nat} (hk : s.known = true) (hs : s.OK env gs) (h0 : 0 < m) (h : o + m ≤ s.len) : (s.sub o m).OK env gs ∧ (s.sub o m).den env gs = ((s.den env gs).drop o).take m ∧ (s.sub o m).known = true := by
  cases s with
  | whole k n =>
    simp only [Seg.len] at h
    by_cases hh : (o == 0 && m == n) = true
    · have e : Seg.sub (.whole k n) o m = .whole k n := by simp only [Seg.sub, hh, if_true]
      rw [e]
      simp at hh; obtain ⟨rfl, rfl⟩ := hh
      have := (AggN.cells hs).1
      refine ⟨hs, ?_, rfl⟩
      simp only [Seg.den, List.drop_zero]
      rw [List.take_of_length_le (by omega)]
    · have e : Seg.sub (.whole k n) o m = .part k o m := by simp only [Seg.sub, hh]; rfl
      rw [e]
      exact ⟨⟨n, hs, h⟩, rfl, rfl⟩
  | part k off n =>
    have hs' := hs
    obtain ⟨m', h1, h2⟩ := hs'
    simp only [Seg.len] at h
    have hc := h1.cells.1
    by_cases hh : (o == 0 && m == n) = true
    · have e : Seg.sub (.part k off n) o m = .part k off n := by simp only [Seg.sub, hh, if_true]
      rw [e]
      simp at hh; obtain ⟨rfl, rfl⟩ := hh
      refine ⟨hs, ?_, rfl⟩
      simp only [Seg.den, List.drop_zero]
      rw [List.take_take, Nat.min_self]
    · have e : Seg.sub (.part k off n) o m = .part k (off + o) m := by simp only [Seg.sub, hh]; rfl
      rw [e]
      refine ⟨⟨m', h1, by omega⟩, ?_, rfl⟩
      simp only [Seg.den, List.drop_take, List.take_take, List.drop_drop]
      congr 1; omega
  | lit l => exact ⟨fun x hx => hs x (List.mem_of_mem_drop (List.mem_of_mem_take hx)), rfl, rfl⟩
  | one a =>
    simp only [Seg.len] at h
    have e1 : o = 0 := by omega
    have e2 : m = 1 := by omega
    subst e1; subst e2
    exact ⟨hs, rfl, rfl⟩
  | rest k => cases hk
  | junk k => cases hk
theorem flat_cons (s : Seg) (r : List Seg) : flat env gs (s :: r) = s.den env gs ++ flat env gs r := by simp [flat]
theorem flat_append (a b : List Seg) : flat env gs (a ++ b) = flat env gs a ++ flat env gs b := by simp [flat]
theorem cutS_ok : ∀ (l : List Seg) (off n : Nat) (r : List Seg), cutS l off n = some r → (∀ s ∈ l, s.OK env gs) →
    flat env gs r = ((flat env gs l).drop off).take n ∧ (n = 0 ∨ off + n ≤ (flat env gs l).length) ∧ (∀ s ∈ r, s.OK env gs ∧ s.known = true)
  | [], off, n, r, h, _ => by
    simp only [cutS] at h
    split at h
    · rename_i hn; simp at hn; subst hn; cases h; simp [flat]
    · cases h
  | s :: l, off, n, r, h, ho => by
    simp only [cutS] at h
    have hs := ho s (by simp)
    have hl : ∀ s ∈ l, s.OK env gs := fun s hs => ho s (List.mem_cons_of_mem _ hs)
    split at h
    · rename_i hn; simp at hn; subst hn; cases h; simp [flat]
    · rename_i hn
      simp only [beq_iff_eq] at hn
      split at h
      · cases h
      · rename_i hk
        simp only [Bool.not_eq_true', Bool.not_eq_false] at hk
        have hlen := Seg.len_den hk hs
        split at h
        · rename_i hle
          obtain ⟨h1, h2, h3⟩ := cutS_ok l _ n r h hl
          refine ⟨?_, ?_, h3⟩
          · rw [h1, flat_cons, List.drop_append, hlen, show (s.den env gs).drop off = [] from List.drop_of_length_le (by omega), List.nil_append]
          · rw [flat_cons, List.length_append, hlen]; omega
        · rename_i hle
          obtain ⟨r', hr', rfl⟩ := Option.map_eq_some_iff.1 h
          obtain ⟨h1, h2, h3⟩ := cutS_ok l _ _ r' hr' hl
          obtain ⟨s1, s2, s3⟩ := Seg.sub_den (o := off) (m := min n (s.len - off)) hk hs (by omega) (by omega)
          refine ⟨?_, ?_, ?_⟩
          · rw [flat_cons, flat_cons, h1, s2, List.drop_append, hlen, List.take_append]
            have e1 : off - s.len = 0 := by omega
            have e2 : ((s.den env gs).drop off).length = s.len - off := by simp [hlen]
            rw [e1, e2]
            rcases Nat.le_total n (s.len - off) with hh | hh
            · rw [Nat.min_eq_left hh]
              have : n - (s.len - off) = n - n := by omega
              rw [this]
            · rw [Nat.min_eq_right hh, List.take_of_length_le (i := n) (by rw [e2]; exact hh), List.take_of_length_le (i := s.len - off) (by rw [e2]; exact Nat.le_refl _)]
          · rw [flat_cons, List.length_append, hlen]
            omega
          · intro x hx
            rcases List.mem_cons.1 hx with rfl | hx
            · exact ⟨s1, s3⟩
            · exact h3 x hx
theorem dropS_ok : ∀ (l : List Seg) (n : Nat) (r : List Seg), dropS l n = some r → (∀ s ∈ l, s.OK env gs) →
    flat env gs r = (flat env gs l).drop n ∧ n ≤ (flat env gs l).length ∧ (∀ s ∈ r, s.OK env gs)
  | [], n, r, h, _ => by
    simp only [dropS] at h
    split at h
    · rename_i hn; simp at hn; subst hn; cases h; simp [flat]
    · cases h
  | s :: l, n, r, h, ho => by
    simp only [dropS] at h
    have hs := ho s (by simp)
    have hl : ∀ s ∈ l, s.OK env gs := fun s hs => ho s (List.mem_cons_of_mem _ hs)
    split at h
    · rename_i hn; simp at hn; subst hn; cases h; exact ⟨by simp, Nat.zero_le _, ho⟩
    · rename_i hn
      simp only [beq_iff_eq] at hn
      split at h
      · cases h
      · rename_i hk
        simp only [Bool.not_eq_true', Bool.not_eq_false] at hk
        have hlen := Seg.len_den hk hs
        split at h
        · rename_i hle
          obtain ⟨h1, h2, h3⟩ := dropS_ok l _ r h hl
          refine ⟨?_, ?_, h3⟩
          · rw [h1, flat_cons, List.drop_append, hlen, List.drop_of_length_le (i := n) (by omega), List.nil_append]
          · rw [flat_cons, List.length_append, hlen]; omega
        · rename_i hle
          cases h
          obtain ⟨s1, s2, s3⟩ := Seg.sub_den (o := n) (m := s.len - n) hk hs (by omega) (by omega)
          refine ⟨?_, ?_, ?_⟩
          · rw [flat_cons, flat_cons, s2, List.drop_append, hlen]
            have e1 : n - s.len = 0 := by omega
            rw [e1, List.take_of_length_le (by simp [hlen])]
            simp
          · rw [flat_cons, List.length_append, hlen]; omega
          · intro x hx
            rcases List.mem_cons.1 hx with rfl | hx
            · exact s1
            · exact hl x hx
theorem putS_ok {l new r : List Seg} {off n : Nat} (h : putS l off new n = some r) (ho : ∀ s ∈ l, s.OK env gs) (hn : ∀ s ∈ new, s.OK env gs) :
    flat env gs r = (flat env gs l).take off ++ flat env gs new ++ (flat env gs l).drop (off + n) ∧ off + n ≤ (flat env gs l).length ∧ (∀ s ∈ r, s.OK env gs) := by
  obtain ⟨a, ha, h⟩ := Option.bind_eq_some_iff.1 h
  obtain ⟨b, hb, rfl⟩ := Option.map_eq_some_iff.1 h
  obtain ⟨a1, a2, a3⟩ := cutS_ok l 0 off a ha ho
  obtain ⟨b1, b2, b3⟩ := dropS_ok l (off + n) b hb ho
  refine ⟨?_, b2, ?_⟩
  · rw [flat_append, flat_append, a1, b1]; simp
  · intro s hs
    rcases List.mem_append.1 hs with hs | hs
    · exact (a3 s hs).1
    · rcases List.mem_append.1 hs with hs | hs
      · exact hn s hs
      · exact b3 s hs
end
end Go.Proofs.Ytdpongijmmdnoaa
