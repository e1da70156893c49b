/- field.Int, Square, Times: WRITTEN BY gen_int.py -/
import Derived.Test.YtdpongijmmdnoaaMul
import Derived.Test.YtdpongijmmdnoaaFb
namespace Go.Proofs.Ytdpongijmmdnoaa
open Go.RowKit

def intL (m : Int) : List Int := [bits .and .u64 m 72057594037927935, m / 72057594037927936, 0, 0, 0, 0, 0, 0]
@[simp] theorem intL_len (m : Int) : (intL m).length = 8 := rfl
def intF (n : Int) : List Int := if n < 0 then negF (intL (IntKind.u64.wrap (wrap64 (-n)))) else intL (IntKind.u64.wrap n)
@[simp] theorem intF_len (n : Int) : (intF n).length = 8 := by unfold intF; split <;> simp
theorem build_8 (x y : Int) (W : World) : (Instr.build 25 [((0 : Nat), Value.int .u64 x), (1, Value.int .u64 y)].toArray).run Try.prog W = .ok (AG (us [x, y, 0, 0, 0, 0, 0, 0])) W := by kernel_rfl

set_option maxHeartbeats 400000 in
theorem int_any (n : Int) (w : World) : Calls Try.prog 35 #[.int .i64 n] w fun e w' => e = .returned (AG (us (intF n))) ∧ Below w.heap.size w w' := by
  by_cases hn : n < 0
  · have e : intF n = negF (intL (IntKind.u64.wrap (wrap64 (-n)))) := if_pos hn
    rw [e]
    go_enter Try.func35, Try.ntmps35
    have st := St.start w
    go_wp2_with (first
      | ((with_reducible show wpList _ _ _ (⟨some 2, _, _, _, _, _⟩ :: _) _ _); refine wpList_alloc_st (o := ⟨some 2, _, _, _, _, _⟩) rfl 27 rfl (us zE) zisE st ?_; clear st; intro g2 w2 st)
      | ((with_reducible show wpList _ _ _ (⟨some 13, _, _, _, _, _⟩ :: _) _ _); refine wpList_build (o := ⟨some 13, _, _, _, _, _⟩) rfl 25 [(0, (.tmp 8)), (1, (.tmp 12))] rfl [(0, (.int .u64 (bits .and .u64 (IntKind.u64.wrap (wrap64 (-n))) 72057594037927935))), (1, (.int .u64 ((IntKind.u64.wrap (wrap64 (-n))) / 72057594037927936)))] rfl (AG (us (intL (IntKind.u64.wrap (wrap64 (-n)))))) (fun W => build_8 _ _ W) ?_)
      | ((with_reducible show wpList _ _ _ (⟨some 14, _, _, _, _, _⟩ :: _) _ _); refine wpList_build (o := ⟨some 14, _, _, _, _, _⟩) rfl 27 [(0, (.tmp 13))] rfl [(0, (AG (us (intL (IntKind.u64.wrap (wrap64 (-n)))))))] rfl (AG (us (intL (IntKind.u64.wrap (wrap64 (-n)))))) (build_E (intL (IntKind.u64.wrap (wrap64 (-n)))) (by first | omega | (simp; done) | (simp; omega))) ?_))
    refine (neg_any (intL (IntKind.u64.wrap (wrap64 (-n)))) (by first | omega | (simp; done) | (simp; omega)) _).mono ?_
    rintro e w15 ⟨rfl, hb⟩
    replace st := st.call hb; clear hb
    go_wp2_with ((with_reducible show wpList _ _ _ (⟨none, .store 27 (.tmp 2) (.tmp 15), _, _, _, _⟩ :: _) _ _); refine wpList_store_st (o := ⟨none, _, _, _, _, _⟩) rfl 27 (.tmp 2) (.tmp 15) rfl g2 0 rfl (us (negF (intL (IntKind.u64.wrap (wrap64 (-n)))))) rfl 8 aggE.size (by first | omega | (simp; done) | (simp; omega)) st 0 _ _ rfl (by first | omega | (simp; done) | (simp; omega)) (us_one _) (us (negF (intL (IntKind.u64.wrap (wrap64 (-n)))))) (put_all _ _ 8 (by first | omega | (simp; done) | (simp; omega)) (by first | omega | (simp; done) | (simp; omega))) ?_; clear st; intro w_0 st)
    exact post_st rfl g2 rfl st 0 _ _ rfl 8 aggE (by simp) rfl ⟨rfl, st.below⟩
  · have e : intF n = intL (IntKind.u64.wrap n) := if_neg hn
    rw [e]
    go_enter Try.func35, Try.ntmps35
    have st := St.start w
    go_wp2_with (first
      | ((with_reducible show wpList _ _ _ (⟨some 2, _, _, _, _, _⟩ :: _) _ _); refine wpList_alloc_st (o := ⟨some 2, _, _, _, _, _⟩) rfl 27 rfl (us zE) zisE st ?_; clear st; intro g2 w2 st)
      | ((with_reducible show wpList _ _ _ (⟨some 22, _, _, _, _, _⟩ :: _) _ _); refine wpList_build (o := ⟨some 22, _, _, _, _, _⟩) rfl 25 [(0, (.tmp 18)), (1, (.tmp 21))] rfl [(0, (.int .u64 (bits .and .u64 (IntKind.u64.wrap n) 72057594037927935))), (1, (.int .u64 ((IntKind.u64.wrap n) / 72057594037927936)))] rfl (AG (us (intL (IntKind.u64.wrap n)))) (fun W => build_8 _ _ W) ?_)
      | ((with_reducible show wpList _ _ _ (⟨some 23, _, _, _, _, _⟩ :: _) _ _); refine wpList_build (o := ⟨some 23, _, _, _, _, _⟩) rfl 27 [(0, (.tmp 22))] rfl [(0, (AG (us (intL (IntKind.u64.wrap n)))))] rfl (AG (us (intL (IntKind.u64.wrap n)))) (build_E (intL (IntKind.u64.wrap n)) (by first | omega | (simp; done) | (simp; omega))) ?_)
      | ((with_reducible show wpList _ _ _ (⟨none, .store 27 (.tmp 2) (.tmp 23), _, _, _, _⟩ :: _) _ _); refine wpList_store_st (o := ⟨none, _, _, _, _, _⟩) rfl 27 (.tmp 2) (.tmp 23) rfl g2 0 rfl (us (intL (IntKind.u64.wrap n))) rfl 8 aggE.size (by first | omega | (simp; done) | (simp; omega)) st 0 _ _ rfl (by first | omega | (simp; done) | (simp; omega)) (us_one _) (us (intL (IntKind.u64.wrap n))) (put_all _ _ 8 (by first | omega | (simp; done) | (simp; omega)) (by first | omega | (simp; done) | (simp; omega))) ?_; clear st; intro w_0 st))
    exact post_st rfl g2 rfl st 0 _ _ rfl 8 aggE (by simp) rfl ⟨rfl, st.below⟩

def Bd (l : List Int) : Prop := ∀ x ∈ l, 0 ≤ x ∧ x < 18446744073709551616
set_option maxHeartbeats 400000 in
theorem square_any (l : List Int) (ll : l.length = 8) (bl : Bd l) (w : World) :
    Calls Try.prog 38 #[(AG (us l))] w fun e w' => e = .returned (AG (us (mulF l l))) ∧ Below w.heap.size w w' := by
  go_enter Try.func38, Try.ntmps38
  have st := St.start w
  go_wp2_with (first
    | ((with_reducible show wpList _ _ _ (⟨some 1, _, _, _, _, _⟩ :: _) _ _); refine wpList_box_st (o := ⟨some 1, _, _, _, _, _⟩) rfl 27 (.tmp 0) rfl (us l) rfl st ?_; clear st; intro g1 w1 st)
    | ((with_reducible show wpList _ _ _ (⟨some 2, _, _, _, _, _⟩ :: _) _ _); refine wpList_alloc_st (o := ⟨some 2, _, _, _, _, _⟩) rfl 27 rfl (us zE) zisE st ?_; clear st; intro g2 w2 st)
    | ((with_reducible show wpList _ _ _ (⟨some 3, _, _, _, _, _⟩ :: _) _ _); refine wpList_load_st (o := ⟨some 3, _, _, _, _, _⟩) rfl 27 (.tmp 1) rfl g1 0 rfl 8 aggE st 1 _ _ (AG (us l)) rfl (by first | omega | (simp; done) | (simp; omega)) (cut_all _ 8 (by first | omega | (simp; done) | (simp; omega))) ?_)
    | ((with_reducible show wpList _ _ _ (⟨some 4, _, _, _, _, _⟩ :: _) _ _); refine wpList_load_st (o := ⟨some 4, _, _, _, _, _⟩) rfl 27 (.tmp 1) rfl g1 0 rfl 8 aggE st 1 _ _ (AG (us l)) rfl (by first | omega | (simp; done) | (simp; omega)) (cut_all _ 8 (by first | omega | (simp; done) | (simp; omega))) ?_))
  refine (mul_any l l (by first | omega | (simp; done) | (simp; omega)) (by first | omega | (simp; done) | (simp; omega)) bl bl _).mono ?_
  rintro e w5 ⟨rfl, hb⟩
  replace st := st.call hb; clear hb
  go_wp2_with ((with_reducible show wpList _ _ _ (⟨none, .store 27 (.tmp 2) (.tmp 5), _, _, _, _⟩ :: _) _ _); refine wpList_store_st (o := ⟨none, _, _, _, _, _⟩) rfl 27 (.tmp 2) (.tmp 5) rfl g2 0 rfl (us (mulF l l)) rfl 8 aggE.size (by first | omega | (simp; done) | (simp; omega)) st 0 _ _ rfl (by first | omega | (simp; done) | (simp; omega)) (us_one _) (us (mulF l l)) (put_all _ _ 8 (by first | omega | (simp; done) | (simp; omega)) (by first | omega | (simp; done) | (simp; omega))) ?_; clear st; intro w_0 st)
  exact post_st rfl g2 rfl st 0 _ _ rfl 8 aggE (by first | omega | (simp; done) | (simp; omega)) rfl ⟨rfl, st.below⟩
set_option maxHeartbeats 400000 in
theorem times_any (l : List Int) (n : Int) (ll : l.length = 8) (bl : Bd l) (bn : Bd (intF n)) (w : World) :
    Calls Try.prog 39 #[(AG (us l)), (.int .i64 n)] w fun e w' => e = .returned (AG (us (mulF l (intF n)))) ∧ Below w.heap.size w w' := by
  go_enter Try.func39, Try.ntmps39
  have st := St.start w
  go_wp2_with (first
    | ((with_reducible show wpList _ _ _ (⟨some 2, _, _, _, _, _⟩ :: _) _ _); refine wpList_box_st (o := ⟨some 2, _, _, _, _, _⟩) rfl 27 (.tmp 0) rfl (us l) rfl st ?_; clear st; intro g2 w2 st)
    | ((with_reducible show wpList _ _ _ (⟨some 4, _, _, _, _, _⟩ :: _) _ _); refine wpList_alloc_st (o := ⟨some 4, _, _, _, _, _⟩) rfl 27 rfl (us zE) zisE st ?_; clear st; intro g4 w4 st))
  refine wp_region_ordx [(0, 0), (1, 0), (2, 1), (3, 1), (4, 2)] (fun W => St w W [(g4, us zE, 27), (g2, us l, 27)]) (by kernel_rfl) (by kernel_rfl) (by kernel_rfl) (fun _ _ d _ _ h => by cases d <;> exact h) st.drew ?_
  replace st := st.drew
  refine ordx_load (o := ⟨some 5, _, _, _, _, _⟩) rfl rfl 27 (.tmp 2) rfl g2 0 rfl 8 aggE (us l) _ (AG (us l)) (fun W hS => hS.get 1 rfl) (by first | omega | (simp; done) | (simp; omega)) (cut_all _ 8 (by first | omega | (simp; done) | (simp; omega))) ?_
  try simp only [Act.put, List.setIfInBounds_toArray, List.set_cons_zero, List.set_cons_succ]
  refine ordx_quiet (o := ⟨some 6, _, _, _, _, _⟩) (v := (.int .i64 n)) rfl rfl (fun _ _ => rfl) ?_
  try simp only [Act.put, List.setIfInBounds_toArray, List.set_cons_zero, List.set_cons_succ]
  refine ordx_run (o := ⟨some 7, _, _, _, _, _⟩) rfl rfl (fun K hK => ?_)
  go_wp2_with fail
  refine (int_any n _).mono ?_
  rintro e w7 ⟨rfl, hb⟩
  replace st := st.call hb; clear hb
  refine hK.out _ _ st ?_
  try simp only [Act.put, List.setIfInBounds_toArray, List.set_cons_zero, List.set_cons_succ]
  clear hK K
  refine ordx_run (o := ⟨some 8, _, _, _, _, _⟩) rfl rfl (fun K hK => ?_)
  go_wp2_with fail
  refine (mul_any l (intF n) (by first | omega | (simp; done) | (simp; omega)) (by first | omega | (simp; done) | (simp; omega)) bl bn _).mono ?_
  rintro e w8 ⟨rfl, hb⟩
  replace st := st.call hb; clear hb
  refine hK.out _ _ st ?_
  try simp only [Act.put, List.setIfInBounds_toArray, List.set_cons_zero, List.set_cons_succ]
  clear hK K
  refine ordx_store (o := ⟨none, .store 27 (.tmp 4) (.tmp 8), _, _, _, _⟩) rfl rfl 27 (.tmp 4) (.tmp 8) rfl g4 0 rfl (us (mulF l (intF n))) rfl 8 aggE.size (by first | omega | (simp; done) | (simp; omega)) st 0 _ _ rfl (by first | omega | (simp; done) | (simp; omega)) (us_one _) (us (mulF l (intF n))) (put_all _ _ 8 (by first | omega | (simp; done) | (simp; omega)) (by first | omega | (simp; done) | (simp; omega))) ?_
  clear st; intro w_0 st
  try simp only [Act.put, List.setIfInBounds_toArray, List.set_cons_zero, List.set_cons_succ]
  refine ordx_nil ?_
  go_wp2_with fail
  exact post_st rfl g4 rfl st 0 _ _ rfl 8 aggE (by first | omega | (simp; done) | (simp; omega)) rfl ⟨rfl, st.below⟩

end Go.Proofs.Ytdpongijmmdnoaa
