/- Slices of bytes that a call makes itself. -/
import Derived.OwnWalk
import Derived.Laws.AppendOwn
import Derived.Great.BuildSlice
import Derived.Test.YtdpongijmmdnoaaRow
namespace Go.Proofs.Ytdpongijmmdnoaa
open Go.RowKit

/-- a slice value that lies in memory newer than w's, and its bytes -/
def Sl (w w' : World) (v : Value) (xs : List Int) : Prop :=
  ∃ (g cap : Nat) (spare : List Value), v = .slice (some ⟨g, 0, none⟩) xs.length cap ∧ w.heap.size ≤ g ∧ Own w' g (ys xs ++ spare) 5

theorem St.add {w0 w w1 : World} {bs : List (Nat × List Value × TypeId)} (h : St w0 w bs) (hb : Below w.heap.size w w1) {g : Nat} (hg : w.heap.size ≤ g) {vs : List Value} {ty : TypeId} (ho : Own w1 g vs ty) :
    St w0 w1 ((g, vs, ty) :: bs) := by
  have h1 := h.call hb
  refine ⟨h1.below, ?_, ?_⟩
  · intro x hx
    rcases List.mem_cons.1 hx with rfl | hx
    · exact ⟨Nat.le_trans h.below.size hg, ho⟩
    · exact h1.own x hx
  · refine List.pairwise_cons.2 ⟨fun y hy => ?_, h1.apart⟩
    have := (h.own y hy).2.lt
    show g ≠ y.1
    omega

theorem St.grown {w0 w w1 : World} {bs : List (Nat × List Value × TypeId)} (h : St w0 w bs) {row : Option Nat} (hg : w.grownBy w1 row) (hr : ∀ k, row = some k → w0.heap.size ≤ k ∧ ∀ b ∈ bs, b.1 ≠ k) : St w0 w1 bs := by
  refine ⟨⟨hg.os.trans h.below.os, hg.tape.trans h.below.tape, hg.output.trans h.below.output, Nat.le_trans h.below.size hg.size, fun k hk => ?_⟩, fun x hx => ⟨(h.own x hx).1, ?_⟩, h.apart⟩
  · rw [hg.block k (Nat.lt_of_lt_of_le hk h.below.size) (fun e => by have := (hr k e.symm).1; omega)]
    exact h.below.block k hk
  · have ho := (h.own x hx).2
    unfold Own at ho ⊢
    rw [hg.block x.1 (Own.lt ho) (fun e => (hr x.1 e.symm).2 x hx rfl)]
    exact ho

/-- a slice that grows: nil, or a block of the call's own; the blocks beside it -/
structure Bs (w0 w : World) (bs : List (Nat × List Value × TypeId)) (v : Value) (xs : List Int) : Prop where
  st : St w0 w bs
  own : w.ownsRow w0.heap.size 5 1 v xs.length (ys xs)

theorem Bs.start {w0 w : World} {bs : List (Nat × List Value × TypeId)} (st : St w0 w bs) : Bs w0 w bs (.slice none 0 0) [] := ⟨st, World.ownsRow_nil _ _ _ _⟩
theorem Bs.drew {w0 w : World} {bs : List (Nat × List Value × TypeId)} {v : Value} {xs : List Int} (h : Bs w0 w bs v xs) : Bs w0 w.drew bs v xs := ⟨h.st.drew, h.own⟩

theorem ys_app (a b : List Int) : ys (a ++ b) = ys a ++ ys b := by simp [ys]

theorem Bs.end {w0 w : World} {bs : List (Nat × List Value × TypeId)} {v : Value} {xs : List Int} (h : Bs w0 w bs v xs) (hx : 0 < xs.length) : Sl w0 w v xs := by
  obtain ⟨_, h | ⟨g, cap, cur, rfl, hb, hg, hc, _, hs, ht⟩⟩ := h.own
  · omega
  · refine ⟨g, cap, cur.toList.drop (xs.length * 1), rfl, hb, ?_⟩
    unfold Own
    rw [← ht, List.take_append_drop]
    simpa using hg

theorem infoB : (Try.prog.info? 5).map (fun i => (i.zero, i.size, i.bytes)) = some (some (.int .u8 0), 1, 1) := by kernel_rfl

section
variable {ops : Array Oper} {rest : List Oper} {o : Oper} {a : Act} {w w0 : World} {Q : Exit → Act → World → Prop} {bs : List (Nat × List Value × TypeId)}

/-- a slice of one byte, made to be appended -/
theorem wpList_byte (hgd : o.guard = none) (x : Operand) (ho : o.op = .buildSlice 47 1 #[(0, x)]) (z : Int) (hz : a.eval x = .int .u8 z) {v : Value} {xs : List Int} (h0 : Bs w0 w bs v xs)
    (h : ∀ g w1, Bs w0 w1 ((g, [.int .u8 z], 5) :: bs) v xs → wpList Try.prog ops Q rest (a.put o.dst (.slice (some ⟨g, 0, none⟩) 1 1)) w1) : wpList Try.prog ops Q (o :: rest) a w := by
  obtain ⟨ie, hi, hzz, hs, _⟩ := info_parts infoB
  refine wpList_buildSlice hgd 47 5 1 _ ho #[.int .u8 z] ie _ Try.underlying47 hi hzz (by rw [hs]; omega) (by rw [hs]; omega) ?_ ?_
  · rw [hs]
    simp only [hz, List.map_toArray, List.map_cons, List.map_nil]
    kernel_rfl
  · refine h _ _ ⟨?_, ?_⟩
    · exact h0.st.newer (newer_alloc w _) (heap_alloc_new w _)
    · exact h0.own.alloc _

theorem wpList_app (hgd : o.guard = none) (s x : Operand) (ho : o.op = .call { callee := .builtin .append, args := #[s, x], argTypes := #[47, 47] })
    {v : Value} {xs : List Int} (hs : a.eval s = v) (zs : List Int) (ad : Addr) (c : Nat) (hx : a.eval x = .slice (some ad) zs.length c)
    (h0 : Bs w0 w bs v xs) (hne : ∀ b ∈ bs, b.2.2 ≠ 5) (hc : ∀ j u, (ys zs)[j]? = some u → w.cell? (ad.add j) = some u) (hl : xs.length + zs.length ≤ 1000000)
    (h : ∀ v' w1, Bs w0 w1 bs v' (xs ++ zs) → wpList Try.prog ops Q rest (a.put o.dst v') w1) : wpList Try.prog ops Q (o :: rest) a w := by
  obtain ⟨ie, hi, hzz, hsz, hby⟩ := info_parts infoB
  refine wpList_append_own w hgd s x 47 ho w0.heap.size 5 ie _ 1 1 Try.underlying47 hi hzz hsz hby rfl (by omega) v xs.length (ys xs) hs h0.own ad zs.length c (ys zs) hx (by simp) hc (ys_one _) (by simp only [maxLen]; omega) (by omega) h0.st.below.size ?_
  intro v' w' hown hgr _
  refine h v' w' ⟨h0.st.grown hgr ?_, by simpa [ys_app] using hown⟩
  intro k hk
  obtain ⟨hk1, _⟩ := h0.own.lt k hk
  refine ⟨hk1, fun b hb e => ?_⟩
  obtain ⟨_, hn | ⟨g, cap, cur, hv, _, hg, _⟩⟩ := h0.own
  · rw [hn.1] at hk; simp [Value.ownBlock] at hk
  · rw [hv] at hk
    simp [Value.ownBlock] at hk
    subst hk
    have := (h0.st.own b hb).2
    unfold Own at this
    rw [e, hg] at this
    injection this with this
    injection this with h1 h2 h3
    exact hne b hb h2.symm

theorem wpList_push (hgd : o.guard = none) (s x : Operand) (ho : o.op = .call { callee := .builtin .append, args := #[s, x], argTypes := #[47, 47] })
    {v : Value} {xs : List Int} (hs : a.eval s = v) (z : Int) (g : Nat) (hx : a.eval x = .slice (some ⟨g, 0, none⟩) 1 1)
    (h0 : Bs w0 w ((g, [.int .u8 z], 5) :: bs) v xs) (hne : ∀ b ∈ bs, b.2.2 ≠ 5) (hl : xs.length + 1 ≤ 1000000)
    (h : ∀ v' w1, Bs w0 w1 bs v' (xs ++ [z]) → wpList Try.prog ops Q rest (a.put o.dst v') w1) : wpList Try.prog ops Q (o :: rest) a w := by
  refine wpList_app hgd s x ho hs [z] ⟨g, 0, none⟩ 1 hx ⟨h0.st.tail, h0.own⟩ hne ?_ hl h
  intro j u hj
  rw [addr_add]
  match j, hj with
  | 0, hj => simp [ys] at hj; subst hj; exact (h0.st.get 0 rfl).cell_of 0 rfl
  | j + 1, hj => simp [ys] at hj
end
end Go.Proofs.Ytdpongijmmdnoaa
