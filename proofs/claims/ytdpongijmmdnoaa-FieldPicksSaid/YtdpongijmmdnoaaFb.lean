/- the straight functions of package field: WRITTEN BY gen_field.py -/
import Derived.Test.YtdpongijmmdnoaaFa
namespace Go.Proofs.Ytdpongijmmdnoaa
open Go.RowKit

set_option maxHeartbeats 400000 in
theorem sub_any (a b : List Int) (la : a.length = 8) (lb : b.length = 8) (w : World) :
    Calls Try.prog 16 #[(AG (us a)), (AG (us b))] w fun e w' => e = .returned (AG (us (subF a b))) ∧ Below w.heap.size w w' := by
  go_enter Try.func16, Try.ntmps16
  have st := St.start w
  go_wp2_with (first
    | ((with_reducible show wpList _ _ _ (⟨some 2, _, _, _, _, _⟩ :: _) _ _); refine wpList_box_st (o := ⟨some 2, _, _, _, _, _⟩) rfl 27 (.tmp 0) rfl (us a) rfl st ?_; clear st; intro g2 w2 st)
    | ((with_reducible show wpList _ _ _ (⟨some 3, _, _, _, _, _⟩ :: _) _ _); refine wpList_box_st (o := ⟨some 3, _, _, _, _, _⟩) rfl 27 (.tmp 1) rfl (us b) rfl st ?_; clear st; intro g3 w3 st)
    | ((with_reducible show wpList _ _ _ (⟨some 4, _, _, _, _, _⟩ :: _) _ _); refine wpList_alloc_st (o := ⟨some 4, _, _, _, _, _⟩) rfl 27 rfl (us zE) zisE st ?_; clear st; intro g4 w4 st))
  refine (prime_any _).mono ?_
  rintro e w6 ⟨rfl, hb⟩
  replace st := st.call hb; clear hb
  go_wp2_with (first
    | ((with_reducible show wpList _ _ _ (⟨some 5, _, _, _, _, _⟩ :: _) _ _); refine wpList_alloc_st (o := ⟨some 5, _, _, _, _, _⟩) rfl 25 rfl (us zE) zis8 st ?_; clear st; intro g5 w5 st)
    | ((with_reducible show wpList _ _ _ (⟨none, .store 25 (.tmp 5) (.tmp 6), _, _, _, _⟩ :: _) _ _); refine wpList_store_st (o := ⟨none, _, _, _, _, _⟩) rfl 25 (.tmp 5) (.tmp 6) rfl g5 0 rfl (us primeL) rfl 8 agg8.size (by first | omega | (simp; done) | (simp; omega)) st 0 _ _ rfl (by first | omega | (simp; done) | (simp; omega)) (us_one _) (us primeL) (put_all _ _ 8 (by first | omega | (simp; done) | (simp; omega)) (by first | omega | (simp; done) | (simp; omega))) ?_; clear st; intro w_0 st))
  refine (each_any 48 #[.pointer (some ⟨g2, 0, none⟩), .pointer (some ⟨g5, 0, none⟩), .pointer (some ⟨g3, 0, none⟩)] (subR a b) (subR_len a b) _ (fun _ _ => enters _ _ _ _ Try.func48 rfl (by kernel_rfl)) (fun i W hi hW => (tab8_get _ i hi) ▸ subc_any i hi g2 g5 g3 _ _ _ W (((st.call hW).get 3 rfl).cell_of i (us_get a i (by omega))) (((st.call hW).get 0 rfl).cell_of i (us_get primeL i (by simp; omega))) (((st.call hW).get 2 rfl).cell_of i (us_get b i (by omega))))).mono ?_
  rintro e w8 ⟨rfl, hb⟩
  replace st := st.call hb; clear hb
  go_wp2_with ((with_reducible show wpList _ _ _ (⟨some 9, _, _, _, _, _⟩ :: _) _ _); refine wpList_build (o := ⟨some 9, _, _, _, _, _⟩) rfl 27 [(0, (.tmp 8))] rfl [(0, (AG (us (subR a b))))] rfl (AG (us (subR a b))) (build_E (subR a b) (by first | omega | (simp; done) | (simp; omega))) ?_)
  refine (carry_any (subR a b) (by first | omega | (simp; done) | (simp; omega)) _).mono ?_
  rintro e w10 ⟨rfl, hb⟩
  replace st := st.call hb; clear hb
  go_wp2_with ((with_reducible show wpList _ _ _ (⟨none, .store 27 (.tmp 4) (.tmp 10), _, _, _, _⟩ :: _) _ _); refine wpList_store_st (o := ⟨none, _, _, _, _, _⟩) rfl 27 (.tmp 4) (.tmp 10) rfl g4 0 rfl (us (carryF (subR a b))) rfl 8 aggE.size (by first | omega | (simp; done) | (simp; omega)) st 1 _ _ rfl (by first | omega | (simp; done) | (simp; omega)) (us_one _) (us (carryF (subR a b))) (put_all _ _ 8 (by first | omega | (simp; done) | (simp; omega)) (by first | omega | (simp; done) | (simp; omega))) ?_; clear st; intro w_1 st)
  exact post_st rfl g4 rfl st 1 _ _ rfl 8 aggE (by first | omega | (simp; done) | (simp; omega)) rfl ⟨rfl, st.below⟩

def negF (a : List Int) : List Int := subF zE a
@[simp] theorem negF_len (a : List Int) : (negF a).length = 8 := by simp [negF]

set_option maxHeartbeats 400000 in
theorem neg_any (a : List Int) (la : a.length = 8) (w : World) :
    Calls Try.prog 18 #[(AG (us a))] w fun e w' => e = .returned (AG (us (negF a))) ∧ Below w.heap.size w w' := by
  go_enter Try.func18, Try.ntmps18
  have st := St.start w
  go_wp2_with (first
    | ((with_reducible show wpList _ _ _ (⟨some 1, _, _, _, _, _⟩ :: _) _ _); refine wpList_box_st (o := ⟨some 1, _, _, _, _, _⟩) rfl 27 (.tmp 0) rfl (us a) rfl st ?_; clear st; intro g1 w1 st)
    | ((with_reducible show wpList _ _ _ (⟨some 2, _, _, _, _, _⟩ :: _) _ _); refine wpList_alloc_st (o := ⟨some 2, _, _, _, _, _⟩) rfl 27 rfl (us zE) zisE st ?_; clear st; intro g2 w2 st)
    | ((with_reducible show wpList _ _ _ (⟨some 3, _, _, _, _, _⟩ :: _) _ _); refine wpList_build (o := ⟨some 3, _, _, _, _, _⟩) rfl 27 [] rfl [] rfl (AG (us zE)) build_E0 ?_)
    | ((with_reducible show wpList _ _ _ (⟨some 4, _, _, _, _, _⟩ :: _) _ _); refine wpList_load_st (o := ⟨some 4, _, _, _, _, _⟩) rfl 27 (.tmp 1) rfl g1 0 rfl 8 aggE st 1 _ _ (AG (us a)) rfl (by first | omega | (simp; done) | (simp; omega)) (cut_all _ 8 (by first | omega | (simp; done) | (simp; omega))) ?_))
  refine (sub_any zE a (by first | omega | (simp; done) | (simp; omega)) (by first | omega | (simp; done) | (simp; omega)) _).mono ?_
  rintro e w5 ⟨rfl, hb⟩
  replace st := st.call hb; clear hb
  go_wp2_with ((with_reducible show wpList _ _ _ (⟨none, .store 27 (.tmp 2) (.tmp 5), _, _, _, _⟩ :: _) _ _); refine wpList_store_st (o := ⟨none, _, _, _, _, _⟩) rfl 27 (.tmp 2) (.tmp 5) rfl g2 0 rfl (us (subF zE a)) rfl 8 aggE.size (by first | omega | (simp; done) | (simp; omega)) st 0 _ _ rfl (by first | omega | (simp; done) | (simp; omega)) (us_one _) (us (subF zE a)) (put_all _ _ 8 (by first | omega | (simp; done) | (simp; omega)) (by first | omega | (simp; done) | (simp; omega))) ?_; clear st; intro w_0 st)
  exact post_st rfl g2 rfl st 0 _ _ rfl 8 aggE (by first | omega | (simp; done) | (simp; omega)) rfl ⟨rfl, st.below⟩

/-- the mask of a bit -/
def selM (bit : Int) : Int := IntKind.u64.wrap (-(bits .and .u64 (IntKind.u64.wrap bit) 1))
def selF (bit : Int) (a b : List Int) : List Int := selR (selM bit) a b
@[simp] theorem selF_len (bit : Int) (a b : List Int) : (selF bit a b).length = 8 := selR_len _ _ _
theorem selF_get (bit : Int) (a b : List Int) (i : Nat) (h : i < 8) : (selF bit a b).getD i 0 = bits .xor .u64 (a.getD i 0) (bits .and .u64 (selM bit) (bits .xor .u64 (a.getD i 0) (b.getD i 0))) := by
  unfold selF selR; rw [tab8_get _ i h]

set_option maxHeartbeats 400000 in
theorem select_any (bit : Int) (a b : List Int) (la : a.length = 8) (lb : b.length = 8) (w : World) :
    Calls Try.prog 25 #[(.int .i64 bit), (AG (us a)), (AG (us b))] w fun e w' => e = .returned (AG (us (selF bit a b))) ∧ Below w.heap.size w w' := by
  go_enter Try.func25, Try.ntmps25
  have st := St.start w
  go_wp2_with (first
    | ((with_reducible show wpList _ _ _ (⟨some 4, _, _, _, _, _⟩ :: _) _ _); refine wpList_box_st (o := ⟨some 4, _, _, _, _, _⟩) rfl 27 (.tmp 1) rfl (us a) rfl st ?_; clear st; intro g4 w4 st)
    | ((with_reducible show wpList _ _ _ (⟨some 5, _, _, _, _, _⟩ :: _) _ _); refine wpList_box_st (o := ⟨some 5, _, _, _, _, _⟩) rfl 27 (.tmp 2) rfl (us b) rfl st ?_; clear st; intro g5 w5 st)
    | ((with_reducible show wpList _ _ _ (⟨some 6, _, _, _, _, _⟩ :: _) _ _); refine wpList_alloc_st (o := ⟨some 6, _, _, _, _, _⟩) rfl 27 rfl (us zE) zisE st ?_; clear st; intro g6 w6 st)
    | ((with_reducible show wpList _ _ _ (⟨some 7, _, _, _, _, _⟩ :: _) _ _); refine wpList_alloc_st (o := ⟨some 7, _, _, _, _, _⟩) rfl 24 rfl (us [0]) zis64 st ?_; clear st; intro g7 w7 st)
    | ((with_reducible show wpList _ _ _ (⟨none, .store 24 (.tmp 7) (.tmp 11), _, _, _, _⟩ :: _) _ _); refine wpList_store_st (o := ⟨none, _, _, _, _, _⟩) rfl 24 (.tmp 7) (.tmp 11) rfl g7 0 rfl ([(.int .u64 (selM bit))]) rfl 1 sz64 (by first | omega | (simp; done) | (simp; omega)) st 0 _ _ rfl (by first | omega | (simp; done) | (simp; omega)) (by intro x hx; simp at hx; subst hx; rfl) ([(.int .u64 (selM bit))]) (put_all _ _ 1 (by first | omega | (simp; done) | (simp; omega)) (by first | omega | (simp; done) | (simp; omega))) ?_; clear st; intro w_0 st))
  refine (each_any 51 #[.pointer (some ⟨g4, 0, none⟩), .pointer (some ⟨g7, 0, none⟩), .pointer (some ⟨g5, 0, none⟩)] (selF bit a b) (selF_len bit a b) _ (fun _ _ => enters _ _ _ _ Try.func51 rfl (by kernel_rfl)) (fun i W hi hW => (selF_get bit a b i hi) ▸ selc_any i hi g4 g7 g5 _ _ _ W (((st.call hW).get 3 rfl).cell_of i (us_get a i (by omega))) (((st.call hW).get 0 rfl).cell_of 0 rfl) (((st.call hW).get 2 rfl).cell_of i (us_get b i (by omega))))).mono ?_
  rintro e w13 ⟨rfl, hb⟩
  replace st := st.call hb; clear hb
  go_wp2_with (first
    | ((with_reducible show wpList _ _ _ (⟨some 14, _, _, _, _, _⟩ :: _) _ _); refine wpList_build (o := ⟨some 14, _, _, _, _, _⟩) rfl 27 [(0, (.tmp 13))] rfl [(0, (AG (us (selF bit a b))))] rfl (AG (us (selF bit a b))) (build_E (selF bit a b) (by first | omega | (simp; done) | (simp; omega))) ?_)
    | ((with_reducible show wpList _ _ _ (⟨none, .store 27 (.tmp 6) (.tmp 14), _, _, _, _⟩ :: _) _ _); refine wpList_store_st (o := ⟨none, _, _, _, _, _⟩) rfl 27 (.tmp 6) (.tmp 14) rfl g6 0 rfl (us (selF bit a b)) rfl 8 aggE.size (by first | omega | (simp; done) | (simp; omega)) st 1 _ _ rfl (by first | omega | (simp; done) | (simp; omega)) (us_one _) (us (selF bit a b)) (put_all _ _ 8 (by first | omega | (simp; done) | (simp; omega)) (by first | omega | (simp; done) | (simp; omega))) ?_; clear st; intro w_1 st))
  exact post_st rfl g6 rfl st 1 _ _ rfl 8 aggE (by first | omega | (simp; done) | (simp; omega)) rfl ⟨rfl, st.below⟩

end Go.Proofs.Ytdpongijmmdnoaa
