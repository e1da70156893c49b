/- joined: Sli Zer Raw Byt Of Mad -/
import Derived.Test.YtdpongijmmdnoaaJ1
import Derived.OwnWalk
import Derived.Laws.AppendOwn
import Derived.Great.BuildSlice
set_option linter.unusedSimpArgs false
set_option linter.unusedVariables false
/- Slices of bytes that a call makes itself. -/
namespace Go.Proofs.Ytdpongijmmdnoaa
open Go.RowKit

def Sl (w w' : World) (v : Value) (xs : List Int) : Prop :=
 ∃ (g cap : Nat) (spare : List Value), v = .slice (some ⟨g, 0, none⟩) xs.length cap ∧ w.heap.size ≤ g ∧ Own w' g (ys xs ++ spare) 5

def So (w w' : World) (v : Value) (xs : List Int) : Prop := w'.ownsRow w.heap.size 5 1 v xs.length (ys xs)
theorem So.sl {w w' : World} {v : Value} {xs : List Int} (h : So w w' v xs) (hx : 0 < xs.length) : Sl w w' v xs := by
 obtain ⟨_, h | ⟨g, cap, cur, rfl, hb, hg, hc, _, hs, ht⟩⟩ := h
 ·omega
 ·refine ⟨g, cap, cur.toList.drop (xs.length * 1), rfl, hb, ?_⟩
  unfold Own
  rw [← ht, List.take_append_drop]
  simpa using hg
theorem So.back {w w1 w2 : World} {v : Value} {xs : List Int} (h : So w1 w2 v xs) (hw : w.heap.size ≤ w1.heap.size) : So w w2 v xs :=
 ⟨h.1, h.2.imp id fun ⟨g, cap, cur, f1, f2, f3⟩ => ⟨g, cap, cur, f1, by omega, f3⟩⟩

theorem St.add {w0 w w1 : World} {bs : List (Nat × List Value × TypeId)} (h : St w0 w bs) (hb : Below w.heap.size w w1) {g : Nat} (hg : w.heap.size ≤ g) {vs : List Value} {ty : TypeId} (ho : Own w1 g vs ty) :
 St w0 w1 ((g, vs, ty) :: bs) := by
 have h1 := h.call hb
 refine ⟨h1.below, ?_, ?_⟩
 ·intro x hx
  rcases List.mem_cons.1 hx with rfl | hx
  ·exact ⟨Nat.le_trans h.below.size hg, ho⟩
  ·exact h1.own x hx
 ·refine List.pairwise_cons.2 ⟨fun y hy => ?_, h1.apart⟩
  have := (h.own y hy).2.lt
  show g ≠ y.1
  omega

theorem St.grown {w0 w w1 : World} {bs : List (Nat × List Value × TypeId)} (h : St w0 w bs) {row : Option Nat} (hg : w.grownBy w1 row) (hr : ∀ k, row = some k → w0.heap.size ≤ k ∧ ∀ b ∈ bs, b.1 ≠ k) : St w0 w1 bs := by
 refine ⟨⟨hg.os.trans h.below.os, hg.tape.trans h.below.tape, hg.output.trans h.below.output, Nat.le_trans h.below.size hg.size, fun k hk => ?_⟩, fun x hx => ⟨(h.own x hx).1, ?_⟩, h.apart⟩
 ·rw [hg.block k (Nat.lt_of_lt_of_le hk h.below.size) (fun e => by have := (hr k e.symm).1; omega)]
  exact h.below.block k hk
 ·have ho := (h.own x hx).2
  unfold Own at ho ⊢
  rw [hg.block x.1 (Own.lt ho) (fun e => (hr x.1 e.symm).2 x hx rfl)]
  exact ho

structure Bs (w0 w : World) (bs : List (Nat × List Value × TypeId)) (v : Value) (xs : List Int) : Prop where
 st : St w0 w bs
 own : w.ownsRow w0.heap.size 5 1 v xs.length (ys xs)

theorem Bs.start {w0 w : World} {bs : List (Nat × List Value × TypeId)} (st : St w0 w bs) : Bs w0 w bs (.slice none 0 0) [] := ⟨st, World.ownsRow_nil _ _ _ _⟩
theorem Bs.drew {w0 w : World} {bs : List (Nat × List Value × TypeId)} {v : Value} {xs : List Int} (h : Bs w0 w bs v xs) : Bs w0 w.drew bs v xs := ⟨h.st.drew, h.own⟩

theorem ys_app (a b : List Int) : ys (a ++ b) = ys a ++ ys b := by simp [ys]

theorem Bs.end {w0 w : World} {bs : List (Nat × List Value × TypeId)} {v : Value} {xs : List Int} (h : Bs w0 w bs v xs) (hx : 0 < xs.length) : Sl w0 w v xs := by
 obtain ⟨_, h | ⟨g, cap, cur, rfl, hb, hg, hc, _, hs, ht⟩⟩ := h.own
 ·omega
 ·refine ⟨g, cap, cur.toList.drop (xs.length * 1), rfl, hb, ?_⟩
  unfold Own
  rw [← ht, List.take_append_drop]
  simpa using hg

theorem infoB : (Try.prog.info? 5).map (fun i => (i.zero, i.size, i.bytes)) = some (some (.int .u8 0), 1, 1) := by kernel_rfl

section
variable {ops : Array Oper} {rest : List Oper} {o : Oper} {a : Act} {w w0 : World} {Q : Exit → Act → World → Prop} {bs : List (Nat × List Value × TypeId)}

theorem wpList_byte (hgd : o.guard = none) (x : Operand) (ho : o.op = .buildSlice 47 1 #[(0, x)]) (z : Int) (hz : a.eval x = .int .u8 z) {v : Value} {xs : List Int} (h0 : Bs w0 w bs v xs)
 (h : ∀ g w1, Bs w0 w1 ((g, [.int .u8 z], 5) :: bs) v xs → wpList Try.prog ops Q rest (a.put o.dst (.slice (some ⟨g, 0, none⟩) 1 1)) w1) : wpList Try.prog ops Q (o :: rest) a w := by
 obtain ⟨ie, hi, hzz, hs, _⟩ := info_parts infoB
 refine wpList_buildSlice hgd 47 5 1 _ ho #[.int .u8 z] ie _ Try.underlying47 hi hzz (by rw [hs]; omega) (by rw [hs]; omega) ?_ ?_
 ·rw [hs]
  simp only [hz, List.map_toArray, List.map_cons, List.map_nil]
  kernel_rfl
 ·refine h _ _ ⟨?_, ?_⟩
  ·exact h0.st.newer (newer_alloc w _) (heap_alloc_new w _)
  ·exact h0.own.alloc _

theorem wpList_app (hgd : o.guard = none) (s x : Operand) (ho : o.op = .call { callee := .builtin .append, args := #[s, x], argTypes := #[47, 47] })
 {v : Value} {xs : List Int} (hs : a.eval s = v) (zs : List Int) (ad : Addr) (c : Nat) (hx : a.eval x = .slice (some ad) zs.length c)
 (h0 : Bs w0 w bs v xs) (hne : ∀ b ∈ bs, b.2.2 ≠ 5) (hc : ∀ j u, (ys zs)[j]? = some u → w.cell? (ad.add j) = some u) (hl : xs.length + zs.length ≤ 1000000)
 (h : ∀ v' w1, Bs w0 w1 bs v' (xs ++ zs) → wpList Try.prog ops Q rest (a.put o.dst v') w1) : wpList Try.prog ops Q (o :: rest) a w := by
 obtain ⟨ie, hi, hzz, hsz, hby⟩ := info_parts infoB
 refine wpList_append_own w hgd s x 47 ho w0.heap.size 5 ie _ 1 1 Try.underlying47 hi hzz hsz hby rfl (by omega) v xs.length (ys xs) hs h0.own ad zs.length c (ys zs) hx (by simp) hc (ys_one _) (by simp only [maxLen]; omega) (by omega) h0.st.below.size ?_
 intro v' w' hown hgr _
 refine h v' w' ⟨h0.st.grown hgr ?_, by simpa [ys_app] using hown⟩
 intro k hk
 obtain ⟨hk1, _⟩ := h0.own.lt k hk
 refine ⟨hk1, fun b hb e => ?_⟩
 obtain ⟨_, hn | ⟨g, cap, cur, hv, _, hg, _⟩⟩ := h0.own
 ·rw [hn.1] at hk; simp [Value.ownBlock] at hk
 ·rw [hv] at hk
  simp [Value.ownBlock] at hk
  subst hk
  have := (h0.st.own b hb).2
  unfold Own at this
  rw [e, hg] at this
  injection this with this
  injection this with h1 h2 h3
  exact hne b hb h2.symm

theorem wpList_push (hgd : o.guard = none) (s x : Operand) (ho : o.op = .call { callee := .builtin .append, args := #[s, x], argTypes := #[47, 47] })
 {v : Value} {xs : List Int} (hs : a.eval s = v) (z : Int) (g : Nat) (hx : a.eval x = .slice (some ⟨g, 0, none⟩) 1 1)
 (h0 : Bs w0 w ((g, [.int .u8 z], 5) :: bs) v xs) (hne : ∀ b ∈ bs, b.2.2 ≠ 5) (hl : xs.length + 1 ≤ 1000000)
 (h : ∀ v' w1, Bs w0 w1 bs v' (xs ++ [z]) → wpList Try.prog ops Q rest (a.put o.dst v') w1) : wpList Try.prog ops Q (o :: rest) a w := by
 refine wpList_app hgd s x ho hs [z] ⟨g, 0, none⟩ 1 hx ⟨h0.st.tail, h0.own⟩ hne ?_ hl h
 intro j u hj
 rw [addr_add]
 match j, hj with
 | 0, hj => simp [ys] at hj; subst hj; exact (h0.st.get 0 rfl).cell_of 0 rfl
 | j + 1, hj => simp [ys] at hj
end
end Go.Proofs.Ytdpongijmmdnoaa
/- field.Zero, Equal, raw, Bytes -/
namespace Go.Proofs.Ytdpongijmmdnoaa
open Go.RowKit

set_option maxRecDepth 20000 in
theorem fieldE0 (l : List Int) (ll : l.length = 8) (W : World) : (Instr.field 27 (AG (us l)) 0).run Try.prog W = .ok (AG (us l)) W := by
 refine run_field (cs := us l) (off := 0) Try.underlying27 rfl agg8 rfl _ (cut_all _ 8 ?_) W
 simp [ll]

def orT (l : List Int) : Nat → Int
 | 0 => 0
 | k + 1 => bits .or .u64 (orT l k) (l.getD k 0)
def isZF (l : List Int) : Bool := orT (strongF l) 8 == 0

set_option maxHeartbeats 400000 in
theorem zero_any (l : List Int) (ll : l.length = 8) (bl : Bd l) (w : World) :
 Calls Try.prog 24 #[AG (us l)] w fun e w' => e = .returned (.bool (isZF l)) ∧ Below w.heap.size w w' := by
 go_enter Try.func24, Try.ntmps24
 have st := St.start w
 go_wp2_with (first
  | ((with_reducible show wpList _ _ _ (⟨some 1, _, _, _, _, _⟩ :: _) _ _); refine wpList_box_st (o := ⟨some 1, _, _, _, _, _⟩) rfl 27 (.tmp 0) rfl (us l) rfl st ?_; clear st; intro g1 w1 st)
  | ((with_reducible show wpList _ _ _ (⟨some 6, _, _, _, _, _⟩ :: _) _ _); refine wpList_load_st (o := ⟨some 6, _, _, _, _, _⟩) rfl 27 (.tmp 1) rfl g1 0 rfl 8 aggE st 0 _ _ (AG (us l)) rfl (by simp; omega) (cut_all _ 8 (by simp; omega)) ?_))
 refine (strong_any l ll bl _).mono ?_
 rintro e w7 ⟨rfl, hb⟩
 replace st := st.call hb; clear hb
 have ls : (strongF l).length = 8 := strongF_len l
 generalize hs : strongF l = s at ls
 have Hs := hide hs; clear hs
 go_wp2_with ((with_reducible show wpList _ _ _ (⟨some 8, _, _, _, _, _⟩ :: _) _ _); refine wpList_field (o := ⟨some 8, _, _, _, _, _⟩) rfl 27 (.tmp 7) rfl (AG (us s)) rfl (AG (us s)) (fun W => fieldE0 _ ls W) ?_)
 go_loopw [3, 9] (fun t i wr => ∃ k : Nat, k ≤ 8 ∧ i = .int .i64 k ∧ t = .int .u64 (orT s k) ∧ Below w.heap.size w wr) (fun _ i _ => 8 - (intOf i).toNat)
 case atStart => exact ⟨0, by omega, rfl, rfl, st.below⟩
 case round =>
  obtain ⟨k, hk, rfl, rfl, hb⟩ := hrel
  clear st
  by_cases hlt : k < 8
  ·have hlt' : (k : Int) < 8 := by omega
   have ix := fun W => index8 s ls k hlt W
   generalize hx : s.getD k 0 = x at ix
   generalize ho : orT s k = o
   go_wp2
   go_roundw
   case rel => exact ⟨k + 1, by omega, by go_num, by rw [orT, ho, hx], hb⟩
   case measure => simp [intOf]; omega
  ·have : k = 8 := by omega
   subst this
   generalize ho : orT s 8 = o
   go_wp2
   go_ret
   exact ⟨by rw [isZF, Hs.out, ho]; rfl, hb⟩
end Go.Proofs.Ytdpongijmmdnoaa
/- field.raw, Bytes -/
namespace Go.Proofs.Ytdpongijmmdnoaa
open Go.RowKit

def rawX (x : Int) : Nat → List Int
 | 0 => []
 | k + 1 => rawX x k ++ [x / 2 ^ (8 * k) % 256]
def rawO (l : List Int) : Nat → List Int
 | 0 => []
 | i + 1 => rawO l i ++ rawX (l.getD i 0) 7
def rawF (l : List Int) : List Int := rawO l 8
@[simp] theorem rawX_len (x : Int) (k : Nat) : (rawX x k).length = k := by
 induction k with
 | zero => rfl
 | succ k ih => simp [rawX, ih]
@[simp] theorem rawO_len (l : List Int) (i : Nat) : (rawO l i).length = 7 * i := by
 induction i with
 | zero => rfl
 | succ i ih => simp [rawO, ih]; omega

set_option maxHeartbeats 1000000 in
theorem raw_own (l : List Int) (ll : l.length = 8) (w : World) :
 Calls Try.prog 54 #[AG (us l)] w fun e w' => ∃ v, e = .returned v ∧ So w w' v (rawF l) ∧ Below w.heap.size w w' := by
 go_enter Try.func54, Try.ntmps54
 have st := St.start w
 go_wp2_with (first
  | ((with_reducible show wpList _ _ _ (⟨some 1, _, _, _, _, _⟩ :: _) _ _); refine wpList_box_st (o := ⟨some 1, _, _, _, _, _⟩) rfl 27 (.tmp 0) rfl (us l) rfl st ?_; clear st; intro g1 w1 st)
  | ((with_reducible show wpList _ _ _ (⟨some 8, _, _, _, _, _⟩ :: _) _ _); refine wpList_load_st (o := ⟨some 8, _, _, _, _, _⟩) rfl 25 (.tmp 7) rfl g1 0 rfl 8 agg8 st 0 _ _ (AG (us l)) rfl (by simp; omega) (cut_all _ 8 (by simp; omega)) ?_))
 go_loopw [3, 9] (fun t i wr => ∃ k : Nat, k ≤ 8 ∧ i = .int .i64 k ∧ Bs w wr [(g1, us l, 27)] t (rawO l k)) (fun _ i _ => 8 - (intOf i).toNat)
 case atStart => exact ⟨0, by omega, rfl, Bs.start st⟩
 case round =>
  obtain ⟨i, hi, rfl, hs⟩ := hrel
  clear st
  by_cases hlt : i < 8
  ·have hlt' : (i : Int) < 8 := by omega
   have ix := fun W => index8 l ll i hlt W
   generalize hx : l.getD i 0 = x at ix
   have Hx := hide hx; clear hx
   go_wp2_with fail
   clear ix
   go_loopw [3, 12] (fun t i' wr => ∃ k : Nat, k ≤ 7 ∧ i' = .int .i64 k ∧ Bs w wr [(g1, us l, 27)] t (rawO l i ++ rawX x k)) (fun _ i _ => 7 - (intOf i).toNat)
   case atStart => exact ⟨0, by omega, rfl, by simpa [rawX] using hs⟩
   case round =>
    obtain ⟨k, hk, rfl, hb⟩ := hrel
    clear hs
    by_cases hkt : k < 7
    ·have hkt' : (k : Int) < 7 := by omega
     have w8 : IntKind.i64.wrap (8 * (k : Int)) = 8 * (k : Int) := IntWalk.i64_in _ (by omega)
     go_wp2_with (first
      | ((with_reducible show wpList _ _ _ (⟨some 21, _, _, _, _, _⟩ :: _) _ _); refine wpList_byte (o := ⟨some 21, _, _, _, _, _⟩) rfl (.tmp 20) rfl _ rfl hb ?_; clear hb; intro g w21 hb)
      | ((with_reducible show wpList _ _ _ (⟨some 22, _, _, _, _, _⟩ :: _) _ _); refine wpList_push (o := ⟨some 22, _, _, _, _, _⟩) rfl (.tmp 15) (.tmp 21) rfl rfl _ g rfl hb (by simp) (by simp; omega) ?_; clear hb; intro v' w22 hb))
     go_roundw
     case rel => exact ⟨k + 1, by omega, by go_num, by rw [rawX, ← List.append_assoc]; exact hb⟩
     case measure => simp [intOf]; omega
    ·have : k = 7 := by omega
     subst this
     go_wp2_with fail
     go_roundw
     case rel => exact ⟨i + 1, by omega, by go_num, by rw [rawO, Hx.out]; exact hb⟩
     case measure => simp [intOf]; omega
  ·have : i = 8 := by omega
   subst this
   go_wp2_with fail
   go_ret
   exact ⟨_, rfl, hs.own, hs.st.below⟩
theorem wrap_tab_bd (g : Nat → Int) (h : ∀ i, 0 ≤ g i ∧ g i < 18446744073709551616) : Bd (tab8 g) := by
 intro x hx
 simp only [tab8, List.mem_map] at hx
 obtain ⟨i, _, rfl⟩ := hx
 exact h i
theorem subF_bd (a b : List Int) : Bd (subF a b) := carryF_bd _ (wrap_tab_bd _ fun _ => wrap_bd _)
theorem addF_bd (a b : List Int) : Bd (addF a b) := carryF_bd _ (wrap_tab_bd _ fun _ => wrap_bd _)
theorem negF_bd (a : List Int) : Bd (negF a) := subF_bd _ _
theorem intL_bd (m : Int) (h0 : 0 ≤ m) (h1 : m < 18446744073709551616) : Bd (intL m) := by
 have e : bits .and .u64 m 72057594037927935 = m % 72057594037927936 := by
  have := and_mask m 56 (by omega); rwa [Int.emod_eq_of_lt h0 h1] at this
 intro x hx
 simp only [intL, List.mem_cons, List.not_mem_nil, or_false, e] at hx
 omega
theorem intF_bd (n : Int) : Bd (intF n) := by
 unfold intF
 split
 ·exact negF_bd _
 ·exact intL_bd _ (wrap_bd _).1 (wrap_bd _).2
end Go.Proofs.Ytdpongijmmdnoaa
/- field.Bytes, P, Equal: WRITTEN BY gen_byt.py -/
namespace Go.Proofs.Ytdpongijmmdnoaa
open Go.RowKit

def bytesF (l : List Int) : List Int := rawF (strongF l)
@[simp] theorem rawF_len (l : List Int) : (rawF l).length = 56 := by simp [rawF]
@[simp] theorem bytesF_len (l : List Int) : (bytesF l).length = 56 := by simp [bytesF]
theorem Sl.back {w w1 w2 : World} {v : Value} {xs : List Int} (h : Sl w1 w2 v xs) (hw : w.heap.size ≤ w1.heap.size) : Sl w w2 v xs := by
 obtain ⟨g, cap, sp, e, hg, ho⟩ := h
 exact ⟨g, cap, sp, e, by omega, ho⟩
set_option maxHeartbeats 400000 in
theorem bytes_own (l : List Int) (ll : l.length = 8) (bl : Bd l) (w : World) :
 Calls Try.prog 33 #[(AG (us l))] w fun e w' => ∃ v, e = .returned v ∧ So w w' v (bytesF l) ∧ Below w.heap.size w w' := by
 go_enter Try.func33, Try.ntmps33
 have st := St.start w
 go_wp2_with (first
  | ((with_reducible show wpList _ _ _ (⟨some 1, _, _, _, _, _⟩ :: _) _ _); refine wpList_box_st (o := ⟨some 1, _, _, _, _, _⟩) rfl 27 (.tmp 0) rfl (us l) rfl st ?_; clear st; intro g1 w1 st)
  | ((with_reducible show wpList _ _ _ (⟨some 3, _, _, _, _, _⟩ :: _) _ _); refine wpList_load_st (o := ⟨some 3, _, _, _, _, _⟩) rfl 27 (.tmp 1) rfl g1 0 rfl 8 aggE st 0 _ _ (AG (us l)) rfl (by first | omega | (simp; done) | (simp; omega)) (cut_all _ 8 (by first | omega | (simp; done) | (simp; omega))) ?_))
 refine (strong_any l (by first | omega | (simp; done) | (simp; omega)) bl _).mono ?_
 rintro e w4 ⟨rfl, hb⟩
 replace st := st.call hb; clear hb
 go_wp2_with fail
 have st0 := st
 refine (raw_own (strongF l) (by first | omega | (simp; done) | (simp; omega)) _).mono ?_
 rintro e w5 ⟨v5, rfl, hs, hb⟩
 replace st := st.call hb; clear hb
 go_wp2_with fail
 go_ret
 exact ⟨_, rfl, hs.back (st0.below.size), st.below⟩
theorem bytes_any (l : List Int) (ll : l.length = 8) (bl : Bd l) (w : World) :
 Calls Try.prog 33 #[(AG (us l))] w fun e w' => ∃ v, e = .returned v ∧ Sl w w' v (bytesF l) ∧ Below w.heap.size w w' :=
 (bytes_own l ll bl w).mono fun e w' ⟨v, h1, h2, h3⟩ => ⟨v, h1, h2.sl (by first | simp; done | (rw [bytesF_len]; omega) | (rw [rawF_len]; omega)), h3⟩
end Go.Proofs.Ytdpongijmmdnoaa
/- field.Of -/
namespace Go.Proofs.Ytdpongijmmdnoaa
open Go.RowKit

theorem post2_st {P : Program} {w0 w : World} {bs : List (Nat × List Value × TypeId)} {a : Act} {fn : Func} {R : Ending → World → Prop} {p q : Tmp} {ty : TypeId} (h : fn.results = #[.cell p ty, .tmp q]) (g : Nat)
 (hp : a.tmps.getD p undef = .pointer (some ⟨g, 0, none⟩)) (st : St w0 w bs) (i : Nat) (cs : List Value) (t : TypeId) (hg : bs[i]? = some (g, cs, t)) (n : Nat) (ha : AggSize P ty n) (hn : cs.length = n)
 (u : Value) (hq : a.tmps.getD q undef = u) (hd : a.defers = []) (hR : R (.returned (.tuple #[AG cs, u])) w) : bodyPost P fn R .ret a w := by
 subst hn
 obtain ⟨d, hu, hd', hi⟩ := ha
 refine bodyPost_ret ?_ hd hR
 have hp' : a.tmps[p]?.getD undef = .pointer (some ⟨g, 0, none⟩) := by simpa using hp
 have hq' : a.tmps[q]?.getD undef = u := by simpa using hq
 have := st.get i hg
 simp [results, h, hp', hq', asAddr, run_loadVar_row w g t ty cs.toArray (0, 0) d this hu (by cases d <;> simp_all) (by simpa using hi), AG]

def limbO (b : List Int) (j : Nat) : Nat → Int
 | 0 => 0
 | k + 1 => bits .or .u64 (limbO b j k) (IntKind.u64.wrap (IntKind.u64.wrap (b.getD (j + k) 0) * 2 ^ (8 * k)))
def ofF (b : List Int) : List Int := tab8 fun i => limbO b (7 * i) 7

set_option maxHeartbeats 1000000 in
theorem ofc_any (i : Nat) (hi : i < 8) (r g off cap : Nat) (b : List Int) (lb : b.length = 56) (w : World)
 (hr : w.cell? ⟨r, 0, none⟩ = some (.slice (some ⟨g, off, none⟩) 56 cap)) (hb : ∀ j, j < 56 → w.cell? ⟨g, off + j, none⟩ = some (.int .u8 (b.getD j 0))) :
 Calls Try.prog 52 #[.int .i64 i, .pointer (some ⟨r, 0, none⟩)] w
  fun e w' => e = .returned (.int .u64 (limbO b (7 * i) 7)) ∧ Below w.heap.size w w' := by
 have Hb := hide hb; clear hb
 go_enter Try.func52, Try.ntmps52
 have w7 : IntKind.i64.wrap (7 * (i : Int)) = 7 * (i : Int) := IntWalk.i64_in _ (by omega)
 go_wp2_with fail
 go_loopw [4, 6] (fun t i' wr => ∃ k : Nat, k ≤ 7 ∧ i' = .int .i64 k ∧ t = .int .u64 (limbO b (7 * i) k) ∧ wr = w) (fun _ i _ => 7 - (intOf i).toNat)
 case atStart => exact ⟨0, by omega, rfl, rfl, rfl⟩
 case round =>
  obtain ⟨k, hk, rfl, rfl, rfl⟩ := hrel
  by_cases hkt : k < 7
  ·have hkt' : (k : Int) < 7 := by omega
   have w14 : IntKind.i64.wrap (7 * (i : Int) + (k : Int)) = 7 * (i : Int) + (k : Int) := IntWalk.i64_in _ (by omega)
   have w8 : IntKind.i64.wrap (8 * (k : Int)) = 8 * (k : Int) := IntWalk.i64_in _ (by omega)
   have n14 : (7 * (i : Int) + (k : Int)).toNat = 7 * i + k := by omega
   have b14 : 0 ≤ 7 * (i : Int) + (k : Int) := by omega
   have c14 : 7 * (i : Int) + (k : Int) < 56 := by omega
   have cc := Hb.out (7 * i + k) (by omega)
   generalize hx : b.getD (7 * i + k) 0 = x at cc
   have Hx := hide hx; clear hx
   generalize ho : limbO b (7 * i) k = o
   have Ho := hide ho; clear ho
   go_wp2_with fail
   go_roundw
   case rel => exact ⟨k + 1, by omega, by go_num, by rw [limbO, Ho.out, Hx.out], trivial⟩
   case measure => simp [intOf]; omega
  ·have : k = 7 := by omega
   subst this
   generalize ho : limbO b (7 * i) 7 = o
   go_wp2_with fail
   go_ret
   exact ⟨by rw [ho]; rfl, Below.refl _ _⟩

theorem naS (W : World) : (isAgg 47).run Try.prog W = .ok false W := by kernel_rfl
@[simp] theorem ofF_len (b : List Int) : (ofF b).length = 8 := tab8_len _
def Rd (w : World) (g off : Nat) (b : List Int) : Prop := ∀ j, j < b.length → w.cell? ⟨g, off + j, none⟩ = some (.int .u8 (b.getD j 0))
theorem Rd.below {w w' : World} {g off : Nat} {b : List Int} (h : Rd w g off b) (hb : Below w.heap.size w w') : Rd w' g off b := fun j hj =>
 (World.cell?_of_block (hb.block g (World.block_lt_of_cell? w ⟨g, off + j, none⟩ (h j hj)))).trans (h j hj)
theorem Own.rd {w : World} {g : Nat} {b : List Int} {sp : List Value} {T : TypeId} (h : Own w g (ys b ++ sp) T) : Rd w g 0 b := fun j hj => by
 rw [Nat.zero_add]
 refine h.cell_of j ?_
 rw [List.getElem?_append_left (by simpa using hj)]
 exact ys_get b j hj

set_option maxHeartbeats 1000000 in
theorem of_any (g off cap : Nat) (b : List Int) (lb : b.length = 56) (w : World) (hr : Rd w g off b) :
 Calls Try.prog 26 #[.slice (some ⟨g, off, none⟩) 56 cap] w
  fun e w' => e = .returned (.tuple #[AG (us (ofF b)), .int .i64 0]) ∧ Below w.heap.size w w' := by
 have Hr := hide hr; clear hr
 go_enter Try.func26, Try.ntmps26
 have st := St.start w
 go_wp2_with (first
  | ((with_reducible show wpList _ _ _ (⟨some 1, _, _, _, _, _⟩ :: _) _ _); refine wpList_box_st (o := ⟨some 1, _, _, _, _, _⟩) rfl 47 (.tmp 0) rfl [.slice (some ⟨g, off, none⟩) 56 cap] rfl st ?_; clear st; intro g1 w1 st)
  | ((with_reducible show wpList _ _ _ (⟨some 2, _, _, _, _, _⟩ :: _) _ _); refine wpList_alloc_st (o := ⟨some 2, _, _, _, _, _⟩) rfl 27 rfl (us zE) zisE st ?_; clear st; intro g2 w2 st)
  | ((with_reducible show wpList _ _ _ (⟨some 4, _, _, _, _, _⟩ :: _) _ _); refine wpList_load1_st (o := ⟨some 4, _, _, _, _, _⟩) rfl 47 (.tmp 1) rfl g1 0 rfl naS st 1 _ _ (.slice (some ⟨g, off, none⟩) 56 cap) rfl rfl ?_))
 refine (each_any 52 #[.pointer (some ⟨g1, 0, none⟩)] (ofF b) (ofF_len b) _ (fun _ _ => enters _ _ _ _ Try.func52 rfl (by kernel_rfl)) (fun i W hi hW => (tab8_get _ i hi) ▸ ofc_any i hi g1 g off cap b lb W (((st.call hW).get 1 rfl).cell_of 0 rfl) (fun j hj => (Hr.out.below (st.call hW).below) j (by omega)))).mono ?_
 rintro e w9 ⟨rfl, hb⟩
 replace st := st.call hb; clear hb
 go_wp2_with (first
  | ((with_reducible show wpList _ _ _ (⟨some 10, _, _, _, _, _⟩ :: _) _ _); refine wpList_build (o := ⟨some 10, _, _, _, _, _⟩) rfl 27 [(0, (.tmp 9))] rfl [(0, AG (us (ofF b)))] rfl (AG (us (ofF b))) (build_E (ofF b) (by simp)) ?_)
  | ((with_reducible show wpList _ _ _ (⟨none, .store 27 (.tmp 2) (.tmp 10), _, _, _, _⟩ :: _) _ _); refine wpList_store_st (o := ⟨none, _, _, _, _, _⟩) rfl 27 (.tmp 2) (.tmp 10) rfl g2 0 rfl (us (ofF b)) rfl 8 aggE.size (by simp) st 0 _ _ rfl (by simp) (us_one _) (us (ofF b)) (put_all _ _ 8 (by simp) (by simp)) ?_; clear st; intro w_0 st))
 exact post2_st rfl g2 rfl st 0 _ _ rfl 8 aggE (by simp) _ rfl rfl ⟨rfl, st.below⟩

end Go.Proofs.Ytdpongijmmdnoaa
/- chicorylaw04.Bytes, Made -/
namespace Go.Proofs.Ytdpongijmmdnoaa
open Go.RowKit

set_option maxHeartbeats 1000000 in
theorem lawBytes_any (b : List Int) (lb : b.length = 56) (w : World) :
 Calls Try.prog 41 #[AG (ys b)] w fun e w' => ∃ v, e = .returned v ∧ Sl w w' v b ∧ Below w.heap.size w w' := by
 go_enter Try.func41, Try.ntmps41
 have st := St.start w
 go_wp2_with (first
  | ((with_reducible show wpList _ _ _ (⟨some 1, _, _, _, _, _⟩ :: _) _ _); refine wpList_box_st (o := ⟨some 1, _, _, _, _, _⟩) rfl 23 (.tmp 0) rfl (ys b) rfl st ?_; clear st; intro g1 w1 st; have hb0 := Bs.start st; have o1 := st.get 0 rfl)
  | ((with_reducible show wpList _ _ _ (⟨some 6, _, _, _, _, _⟩ :: _) _ _); refine wpList_app (o := ⟨some 6, _, _, _, _, _⟩) rfl (.tmp 4) (.tmp 5) rfl rfl b ⟨g1, 0, none⟩ 56 (by rw [lb]; rfl) hb0 (by simp) (fun j u hj => by rw [addr_add, Nat.zero_add]; exact o1.cell_of j hj) (by rw [lb]; decide) ?_; clear hb0 o1; intro v' w6 hb))
 go_ret
 exact ⟨_, rfl, hb.end (by simp [lb]), hb.st.below⟩

set_option maxHeartbeats 1000000 in
theorem made_any (b : List Int) (lb : b.length = 56) (w : World) :
 Calls Try.prog 11 #[AG (ys b)] w fun e w' => e = .returned (.tuple #[AG (us (ofF b)), .bool true]) ∧ Below w.heap.size w w' := by
 go_enter Try.func11, Try.ntmps11
 have st := St.start w
 go_wp2_with (first
  | ((with_reducible show wpList _ _ _ (⟨some 1, _, _, _, _, _⟩ :: _) _ _); refine wpList_box_st (o := ⟨some 1, _, _, _, _, _⟩) rfl 23 (.tmp 0) rfl (ys b) rfl st ?_; clear st; intro g1 w1 st)
  | ((with_reducible show wpList _ _ _ (⟨some 2, _, _, _, _, _⟩ :: _) _ _); refine wpList_alloc_st (o := ⟨some 2, _, _, _, _, _⟩) rfl 27 rfl (us zE) zisE st ?_; clear st; intro g2 w2 st)
  | ((with_reducible show wpList _ _ _ (⟨some 7, _, _, _, _, _⟩ :: _) _ _); refine wpList_load_st (o := ⟨some 7, _, _, _, _, _⟩) rfl 23 (.tmp 1) rfl g1 0 rfl 56 aggR st 1 _ _ (AG (ys b)) rfl (by simp; omega) (cut_all _ 56 (by simp; omega)) ?_))
 refine (lawBytes_any b lb _).mono ?_
 rintro e w8 ⟨v8, rfl, ⟨g, cap, sp, rfl, hg, ho⟩, hb⟩
 replace st := st.add hb hg ho; clear hb hg ho
 have hrd := (st.get 0 rfl).rd
 rw [lb]
 go_wp2_with fail
 refine (of_any g 0 cap b lb _ hrd).mono ?_
 rintro e w9 ⟨rfl, hb⟩
 clear hrd
 replace st := (st.call hb).tail; clear hb
 go_wp2_with (first
  | ((with_reducible show wpList _ _ _ (⟨some 4, _, _, _, _, _⟩ :: _) _ _); refine wpList_alloc_st (o := ⟨some 4, _, _, _, _, _⟩) rfl 27 rfl (us zE) zisE st ?_; clear st; intro g4 w4 st)
  | ((with_reducible show wpList _ _ _ (⟨none, .store 27 (.tmp 4) (.tmp 10), _, _, _, _⟩ :: _) _ _); refine wpList_store_st (o := ⟨none, _, _, _, _, _⟩) rfl 27 (.tmp 4) (.tmp 10) rfl g4 0 rfl (us (ofF b)) rfl 8 aggE.size (by simp) st 0 _ _ rfl (by simp) (us_one _) (us (ofF b)) (put_all _ _ 8 (by simp) (by simp)) ?_; clear st; intro w_0 st)
  | ((with_reducible show wpList _ _ _ (⟨some 12, _, _, _, _, _⟩ :: _) _ _); refine wpList_load_st (o := ⟨some 12, _, _, _, _, _⟩) rfl 27 (.tmp 4) rfl g4 0 rfl 8 aggE st 0 _ _ (AG (us (ofF b))) rfl (by simp) (cut_all _ 8 (by simp)) ?_)
  | ((with_reducible show wpList _ _ _ (⟨none, .store 27 (.tmp 2) (.tmp 12), _, _, _, _⟩ :: _) _ _); refine wpList_store_st (o := ⟨none, _, _, _, _, _⟩) rfl 27 (.tmp 2) (.tmp 12) rfl g2 0 rfl (us (ofF b)) rfl 8 aggE.size (by simp) st 1 _ _ rfl (by simp) (us_one _) (us (ofF b)) (put_all _ _ 8 (by simp) (by simp)) ?_; clear st; intro w_1 st))
 exact post2_st rfl g2 rfl st 1 _ _ rfl 8 aggE (by simp) _ rfl rfl ⟨rfl, st.below⟩
end Go.Proofs.Ytdpongijmmdnoaa
