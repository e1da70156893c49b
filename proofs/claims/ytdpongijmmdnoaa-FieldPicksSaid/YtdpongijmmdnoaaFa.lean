/- field.Add -/
import Derived.Test.YtdpongijmmdnoaaTyp
import Derived.Test.YtdpongijmmdnoaaCarry
namespace Go.Proofs.Ytdpongijmmdnoaa
open Go.RowKit

theorem enters (f : FuncId) (args : Array Value) (W : World) (fn : Func) (h : Try.prog.funcs[f]? = some fn) (hb : fn.body.isNone = false) (hn : (fn.name == "runtime.NumGoroutine") = false) :
    (callFunc f args).run Try.prog W = .ok (.enter f args) W := by
  simp only [callFunc, Sem.run_bind, run_program, Result.andThen_ok, h, hn, hb, Bool.false_eq_true, if_false, Sem.run_pure]

set_option maxHeartbeats 400000 in
theorem addc_any (i : Nat) (hi : i < 8) (a b : Nat) (x y : Int) (w : World)
   (ha : w.cell? ⟨a, i, none⟩ = some (.int .u64 x)) (hb : w.cell? ⟨b, i, none⟩ = some (.int .u64 y)) :
    Calls Try.prog 44 #[.int .i64 i, .pointer (some ⟨a, 0, none⟩), .pointer (some ⟨b, 0, none⟩)] w
      fun e w' => e = .returned (.int .u64 (IntKind.u64.wrap (x + y))) ∧ Below w.heap.size w w' := by
  have h1 : (i : Int) < 8 := by omega
  go_enter Try.func44, Try.ntmps44
  go_wp2
  go_quiet (fail)
  go_wp2
  go_ret
  exact ⟨rfl, Below.drewN (Below.refl _ _) _⟩

/-- limbs made by their places -/
def tab8 (g : Nat → Int) : List Int := (List.range 8).map g
@[simp] theorem tab8_len (g : Nat → Int) : (tab8 g).length = 8 := by simp [tab8]
theorem tab8_get (g : Nat → Int) (i : Nat) (h : i < 8) : (tab8 g).getD i 0 = g i := by simp [tab8, List.getD, h]
def addR (a b : List Int) : List Int := tab8 fun i => IntKind.u64.wrap (a.getD i 0 + b.getD i 0)
def addF (a b : List Int) : List Int := carryF (addR a b)
@[simp] theorem addR_len (a b : List Int) : (addR a b).length = 8 := tab8_len _
@[simp] theorem addF_len (a b : List Int) : (addF a b).length = 8 := by simp [addF]

set_option maxHeartbeats 400000 in
theorem add_any (a b : List Int) (la : a.length = 8) (lb : b.length = 8) (w : World) :
    Calls Try.prog 14 #[AG (us a), AG (us b)] w
      fun e w' => e = .returned (AG (us (addF a b))) ∧ Below w.heap.size w w' := by
  go_enter Try.func14, Try.ntmps14
  have st := St.start w
  go_wp2_with (first
    | (refine wpList_box_st (o := ⟨some 2, _, _, _, _, _⟩) rfl 27 (.tmp 0) rfl (us a) rfl st ?_; clear st; intro g2 w2 st)
    | (refine wpList_box_st (o := ⟨some 3, _, _, _, _, _⟩) rfl 27 (.tmp 1) rfl (us b) rfl st ?_; clear st; intro g3 w3 st)
    | (refine wpList_alloc_st (o := ⟨some 4, _, _, _, _, _⟩) rfl 27 rfl (us zE) zisE st ?_; clear st; intro g4 w4 st))
  refine (each_any 44 #[.pointer (some ⟨g2, 0, none⟩), .pointer (some ⟨g3, 0, none⟩)] (addR a b) (addR_len a b) _ (fun _ _ => enters _ _ _ _ Try.func44 rfl (by kernel_rfl)) (fun i W hi hW => (tab8_get _ i hi) ▸ addc_any i hi g2 g3 _ _ W (((st.call hW).get 2 rfl).cell_of i (us_get a i (by omega))) (((st.call hW).get 1 rfl).cell_of i (us_get b i (by omega))))).mono ?_
  rintro e w5 ⟨rfl, hb5⟩
  replace st := st.call hb5; clear hb5
  go_wp2_with (refine wpList_build (o := ⟨some 7, _, _, _, _, _⟩) rfl 27 [(0, .tmp 6)] rfl [(0, AG (us (addR a b)))] rfl _ (build_E _ (addR_len a b)) ?_)
  refine (carry_any (addR a b) (addR_len a b) _).mono ?_
  rintro e w8 ⟨rfl, hb8⟩
  replace st := st.call hb8; clear hb8
  go_wp2_with (refine wpList_store_st (o := ⟨none, _, _, _, _, _⟩) rfl 27 (.tmp 4) (.tmp 8) rfl g4 0 rfl (us (addF a b)) rfl 8 aggE.size (by simp) st 0 _ _ rfl (by simp) (us_one _) (us (addF a b)) (put_all _ _ 8 (by simp) (by simp)) ?_; clear st; intro w9 st)
  exact post_st rfl g4 rfl st 0 _ _ rfl 8 aggE (by simp) rfl ⟨rfl, st.below⟩

/-! ### Sub, Select: their closures; prime -/

set_option maxHeartbeats 400000 in
theorem subc_any (i : Nat) (hi : i < 8) (a p b : Nat) (x q y : Int) (w : World)
   (ha : w.cell? ⟨a, i, none⟩ = some (.int .u64 x)) (hp : w.cell? ⟨p, i, none⟩ = some (.int .u64 q)) (hb : w.cell? ⟨b, i, none⟩ = some (.int .u64 y)) :
    Calls Try.prog 48 #[.int .i64 i, .pointer (some ⟨a, 0, none⟩), .pointer (some ⟨p, 0, none⟩), .pointer (some ⟨b, 0, none⟩)] w
      fun e w' => e = .returned (.int .u64 (IntKind.u64.wrap (IntKind.u64.wrap (x + IntKind.u64.wrap (2 * q)) - y))) ∧ Below w.heap.size w w' := by
  have h1 : (i : Int) < 8 := by omega
  go_enter Try.func48, Try.ntmps48
  go_wp2
  go_quiet (fail)
  go_wp2
  go_ret
  exact ⟨rfl, Below.drewN (Below.refl _ _) _⟩

def primeL : List Int := [72057594037927935, 72057594037927935, 72057594037927935, 72057594037927935, 72057594037927934, 72057594037927935, 72057594037927935, 72057594037927935]
@[simp] theorem primeL_len : primeL.length = 8 := rfl
def subR (a b : List Int) : List Int := tab8 fun i => IntKind.u64.wrap (IntKind.u64.wrap (a.getD i 0 + IntKind.u64.wrap (2 * primeL.getD i 0)) - b.getD i 0)
def subF (a b : List Int) : List Int := carryF (subR a b)
@[simp] theorem subR_len (a b : List Int) : (subR a b).length = 8 := tab8_len _
@[simp] theorem subF_len (a b : List Int) : (subF a b).length = 8 := by simp [subF]

set_option maxHeartbeats 400000 in
theorem selc_any (i : Nat) (hi : i < 8) (a m b : Nat) (x q y : Int) (w : World)
   (ha : w.cell? ⟨a, i, none⟩ = some (.int .u64 x)) (hp : w.cell? ⟨m, 0, none⟩ = some (.int .u64 q)) (hb : w.cell? ⟨b, i, none⟩ = some (.int .u64 y)) :
    Calls Try.prog 51 #[.int .i64 i, .pointer (some ⟨a, 0, none⟩), .pointer (some ⟨m, 0, none⟩), .pointer (some ⟨b, 0, none⟩)] w
      fun e w' => e = .returned (.int .u64 (bits .xor .u64 x (bits .and .u64 q (bits .xor .u64 x y)))) ∧ Below w.heap.size w w' := by
  have h1 : (i : Int) < 8 := by omega
  go_enter Try.func51, Try.ntmps51
  go_wp2
  go_quiet (fail)
  go_wp2
  go_ret
  exact ⟨rfl, Below.drewN (Below.refl _ _) _⟩

def selR (m : Int) (a b : List Int) : List Int := tab8 fun i => bits .xor .u64 (a.getD i 0) (bits .and .u64 m (bits .xor .u64 (a.getD i 0) (b.getD i 0)))
@[simp] theorem selR_len (m : Int) (a b : List Int) : (selR m a b).length = 8 := tab8_len _

theorem fill_rep (v : Value) (n : Nat) : (List.range n).map (fun _ => v) = List.replicate n v := by
  apply List.ext_getElem <;> simp

set_option maxHeartbeats 1000000 in
theorem prime_any (w : World) :
    Calls Try.prog 47 #[] w fun e w' => e = .returned (AG (us primeL)) ∧ Below w.heap.size w w' := by
  go_enter Try.func47, Try.ntmps47
  have st := St.start w
  go_wp2_with (first
    | (refine wpList_alloc_st (o := ⟨some 0, _, _, _, _, _⟩) rfl 25 rfl (us zE) zis8 st ?_; clear st; intro g0 w0 st)
    | (refine wpList_alloc_st (o := ⟨some 1, _, _, _, _, _⟩) rfl 25 rfl (us zE) zis8 st ?_; clear st; intro g1 w1 st))
  go_loopw [3] (fun i wr => ∃ k : Nat, k ≤ 8 ∧ i = .int .i64 k ∧ St w wr [(g1, fillTo 8 (fun _ => U 72057594037927935) (U 0) k, 25), (g0, us zE, 25)]) (fun i _ => 8 - (intOf i).toNat)
  case atStart => exact ⟨0, by omega, rfl, st⟩
  case round =>
    obtain ⟨k, hk, rfl, hs⟩ := hrel
    clear st
    have o1 := hs.get 0 rfl
    by_cases hlt : k < 8
    · have hlt' : (k : Int) < 8 := by omega
      have c1 := o1.cell k (by rw [fillTo_len]; exact hlt)
      have f1 := o1.free k
      have S := hide (hs.wrote 0 rfl (cs' := fillTo 8 (fun _ => U 72057594037927935) (U 0) (k + 1)) (w1 := wr.setCell ⟨g1, k, none⟩ (U 72057594037927935)) ⟨rfl, rfl, rfl, by simp, fun j hj => heap_setCell_other wr _ j _ hj⟩ ((fillTo_set 8 (fun _ => U 72057594037927935) (U 0) k) ▸ o1.set k _))
      clear o1 hs
      go_wp2
      go_roundw
      case rel => exact ⟨k + 1, by omega, by go_num, S.out⟩
      case measure => simp [intOf]; omega
    · have : k = 8 := by omega
      subst this
      rw [fillTo_all, fill_rep] at hs o1
      have c1 := o1.cell_of 4 (v := U 72057594037927935) rfl
      have f1 := o1.free 4
      clear o1
      go_wp2_with (first
        | (refine wpList_store_st (o := ⟨none, .store 24 _ _, _, _, _, _⟩) rfl 24 _ _ rfl g1 4 rfl [U 72057594037927934] rfl 1 sz64 rfl hs 0 _ _ rfl (by simp) (by intro x hx; simp at hx; subst hx; rfl) (us primeL) rfl ?_; clear hs c1 f1; intro w2 st)
        | (refine wpList_load_st (o := ⟨some 13, _, _, _, _, _⟩) rfl 25 (.tmp 1) rfl g1 0 rfl 8 agg8 st 0 _ _ (AG (us primeL)) rfl (by simp) (cut_all _ 8 (by simp)) ?_)
        | (refine wpList_store_st (o := ⟨none, .store 25 _ _, _, _, _, _⟩) rfl 25 _ _ rfl g0 0 rfl (us primeL) rfl 8 agg8.size (by simp) st 1 _ _ rfl (by simp) (us_one _) (us primeL) (put_all _ _ 8 (by simp) (by simp)) ?_; clear st; intro w3 st))
      exact post_st rfl g0 rfl st 1 _ _ rfl 8 agg8 (by simp) rfl ⟨rfl, st.below⟩
end Go.Proofs.Ytdpongijmmdnoaa
