/- FieldRing's walk: WRITTEN BY gen_ring.py -/
import Derived.Test.YtdpongijmmdnoaaEe
namespace Go.Proofs.Ytdpongijmmdnoaa
open Go.RowKit FdP FdP.Ch

set_option maxRecDepth 100000 in
set_option maxHeartbeats 4000000 in
theorem ring_any (b1 : List Int) (l1 : b1.length = 56) (y1 : By b1) (b2 : List Int) (l2 : b2.length = 56) (y2 : By b2) (b3 : List Int) (l3 : b3.length = 56) (y3 : By b3) (w : World) :
    Calls Try.prog 7 #[AG (ys b1), AG (ys b2), AG (ys b3)] w fun e w' => e = .returned (.bool true) ∧ Below w.heap.size w w' := by
  have e1 := of_E b1 l1 y1
  generalize z (bval b1) = a1 at e1
  have e2 := of_E b2 l2 y2
  generalize z (bval b2) = a2 at e2
  have e3 := of_E b3 l3 y3
  generalize z (bval b3) = a3 at e3
  go_enter Try.func7, Try.ntmps7
  have st := St.start w
  go_wp2_with (first
    | ((with_reducible show wpList _ _ _ (⟨some 3, _, _, _, _, _⟩ :: _) _ _); refine wpList_box_st (o := ⟨some 3, _, _, _, _, _⟩) rfl 23 (.tmp 0) rfl (ys b1) rfl st ?_; clear st; intro g3 w3 st)
    | ((with_reducible show wpList _ _ _ (⟨some 4, _, _, _, _, _⟩ :: _) _ _); refine wpList_box_st (o := ⟨some 4, _, _, _, _, _⟩) rfl 23 (.tmp 1) rfl (ys b2) rfl st ?_; clear st; intro g4 w4 st)
    | ((with_reducible show wpList _ _ _ (⟨some 5, _, _, _, _, _⟩ :: _) _ _); refine wpList_box_st (o := ⟨some 5, _, _, _, _, _⟩) rfl 23 (.tmp 2) rfl (ys b3) rfl st ?_; clear st; intro g5 w5 st)
    | ((with_reducible show wpList _ _ _ (⟨some 16, _, _, _, _, _⟩ :: _) _ _); refine wpList_load_st (o := ⟨some 16, _, _, _, _, _⟩) rfl 23 (.tmp 3) rfl g3 0 rfl 56 aggR st 2 _ _ (AG (ys b1)) rfl (by first | omega | (simp; done) | (simp; omega)) (cut_all _ 56 (by first | omega | (simp; done) | (simp; omega))) ?_))
  refine (made_any b1 l1 _).mono ?_
  rintro e w17 ⟨rfl, hb⟩
  replace st := st.call hb; clear hb
  go_wp2_with (first
    | ((with_reducible show wpList _ _ _ (⟨some 7, _, _, _, _, _⟩ :: _) _ _); refine wpList_alloc_st (o := ⟨some 7, _, _, _, _, _⟩) rfl 27 rfl (us zE) zisE st ?_; clear st; intro g7 w7 st)
    | ((with_reducible show wpList _ _ _ (⟨none, .store 27 (.tmp 7) (.tmp 18), _, _, _, _⟩ :: _) _ _); refine wpList_store_st (o := ⟨none, _, _, _, _, _⟩) rfl 27 (.tmp 7) (.tmp 18) rfl g7 0 rfl (us (ofF b1)) rfl 8 aggE.size (by first | omega | (simp; done) | (simp; omega)) st 0 _ _ rfl (by first | omega | (simp; done) | (simp; omega)) (us_one _) (us (ofF b1)) (put_all _ _ 8 (by first | omega | (simp; done) | (simp; omega)) (by first | omega | (simp; done) | (simp; omega))) ?_; clear st; intro w_0 st)
    | ((with_reducible show wpList _ _ _ (⟨some 21, _, _, _, _, _⟩ :: _) _ _); refine wpList_load_st (o := ⟨some 21, _, _, _, _, _⟩) rfl 23 (.tmp 4) rfl g4 0 rfl 56 aggR st 2 _ _ (AG (ys b2)) rfl (by first | omega | (simp; done) | (simp; omega)) (cut_all _ 56 (by first | omega | (simp; done) | (simp; omega))) ?_))
  refine (made_any b2 l2 _).mono ?_
  rintro e w22 ⟨rfl, hb⟩
  replace st := st.call hb; clear hb
  go_wp2_with (first
    | ((with_reducible show wpList _ _ _ (⟨some 9, _, _, _, _, _⟩ :: _) _ _); refine wpList_alloc_st (o := ⟨some 9, _, _, _, _, _⟩) rfl 27 rfl (us zE) zisE st ?_; clear st; intro g9 w9 st)
    | ((with_reducible show wpList _ _ _ (⟨none, .store 27 (.tmp 9) (.tmp 23), _, _, _, _⟩ :: _) _ _); refine wpList_store_st (o := ⟨none, _, _, _, _, _⟩) rfl 27 (.tmp 9) (.tmp 23) rfl g9 0 rfl (us (ofF b2)) rfl 8 aggE.size (by first | omega | (simp; done) | (simp; omega)) st 0 _ _ rfl (by first | omega | (simp; done) | (simp; omega)) (us_one _) (us (ofF b2)) (put_all _ _ 8 (by first | omega | (simp; done) | (simp; omega)) (by first | omega | (simp; done) | (simp; omega))) ?_; clear st; intro w_1 st)
    | ((with_reducible show wpList _ _ _ (⟨some 26, _, _, _, _, _⟩ :: _) _ _); refine wpList_load_st (o := ⟨some 26, _, _, _, _, _⟩) rfl 23 (.tmp 5) rfl g5 0 rfl 56 aggR st 2 _ _ (AG (ys b3)) rfl (by first | omega | (simp; done) | (simp; omega)) (cut_all _ 56 (by first | omega | (simp; done) | (simp; omega))) ?_))
  refine (made_any b3 l3 _).mono ?_
  rintro e w27 ⟨rfl, hb⟩
  replace st := st.call hb; clear hb
  go_wp2_with (first
    | ((with_reducible show wpList _ _ _ (⟨some 11, _, _, _, _, _⟩ :: _) _ _); refine wpList_alloc_st (o := ⟨some 11, _, _, _, _, _⟩) rfl 27 rfl (us zE) zisE st ?_; clear st; intro g11 w11 st)
    | ((with_reducible show wpList _ _ _ (⟨none, .store 27 (.tmp 11) (.tmp 28), _, _, _, _⟩ :: _) _ _); refine wpList_store_st (o := ⟨none, _, _, _, _, _⟩) rfl 27 (.tmp 11) (.tmp 28) rfl g11 0 rfl (us (ofF b3)) rfl 8 aggE.size (by first | omega | (simp; done) | (simp; omega)) st 0 _ _ rfl (by first | omega | (simp; done) | (simp; omega)) (us_one _) (us (ofF b3)) (put_all _ _ 8 (by first | omega | (simp; done) | (simp; omega)) (by first | omega | (simp; done) | (simp; omega))) ?_; clear st; intro w_2 st)
    | ((with_reducible show wpList _ _ _ (⟨some 40, _, _, _, _, _⟩ :: _) _ _); refine wpList_load_st (o := ⟨some 40, _, _, _, _, _⟩) rfl 27 (.tmp 7) rfl g7 0 rfl 8 aggE st 2 _ _ (AG (us (ofF b1))) rfl (by first | omega | (simp; done) | (simp; omega)) (cut_all _ 8 (by first | omega | (simp; done) | (simp; omega))) ?_)
    | ((with_reducible show wpList _ _ _ (⟨some 41, _, _, _, _, _⟩ :: _) _ _); refine wpList_load_st (o := ⟨some 41, _, _, _, _, _⟩) rfl 27 (.tmp 9) rfl g9 0 rfl 8 aggE st 1 _ _ (AG (us (ofF b2))) rfl (by first | omega | (simp; done) | (simp; omega)) (cut_all _ 8 (by first | omega | (simp; done) | (simp; omega))) ?_))
  refine (add_e e1 e2 _).mono ?_
  rintro e w42 ⟨rfl, hb⟩
  replace st := st.call hb; clear hb
  go_wp2_with (first
    | ((with_reducible show wpList _ _ _ (⟨some 13, _, _, _, _, _⟩ :: _) _ _); refine wpList_alloc_st (o := ⟨some 13, _, _, _, _, _⟩) rfl 27 rfl (us zE) zisE st ?_; clear st; intro g13 w13 st)
    | ((with_reducible show wpList _ _ _ (⟨none, .store 27 (.tmp 13) (.tmp 42), _, _, _, _⟩ :: _) _ _); refine wpList_store_st (o := ⟨none, _, _, _, _, _⟩) rfl 27 (.tmp 13) (.tmp 42) rfl g13 0 rfl (us (addF (ofF b1) (ofF b2))) rfl 8 aggE.size (by first | omega | (simp; done) | (simp; omega)) st 0 _ _ rfl (by first | omega | (simp; done) | (simp; omega)) (us_one _) (us (addF (ofF b1) (ofF b2))) (put_all _ _ 8 (by first | omega | (simp; done) | (simp; omega)) (by first | omega | (simp; done) | (simp; omega))) ?_; clear st; intro w_3 st)
    | ((with_reducible show wpList _ _ _ (⟨some 43, _, _, _, _, _⟩ :: _) _ _); refine wpList_load_st (o := ⟨some 43, _, _, _, _, _⟩) rfl 27 (.tmp 7) rfl g7 0 rfl 8 aggE st 3 _ _ (AG (us (ofF b1))) rfl (by first | omega | (simp; done) | (simp; omega)) (cut_all _ 8 (by first | omega | (simp; done) | (simp; omega))) ?_)
    | ((with_reducible show wpList _ _ _ (⟨some 44, _, _, _, _, _⟩ :: _) _ _); refine wpList_load_st (o := ⟨some 44, _, _, _, _, _⟩) rfl 27 (.tmp 9) rfl g9 0 rfl 8 aggE st 2 _ _ (AG (us (ofF b2))) rfl (by first | omega | (simp; done) | (simp; omega)) (cut_all _ 8 (by first | omega | (simp; done) | (simp; omega))) ?_))
  refine (mul_e e1 e2 _).mono ?_
  rintro e w45 ⟨rfl, hb⟩
  replace st := st.call hb; clear hb
  go_wp2_with (first
    | ((with_reducible show wpList _ _ _ (⟨some 14, _, _, _, _, _⟩ :: _) _ _); refine wpList_alloc_st (o := ⟨some 14, _, _, _, _, _⟩) rfl 27 rfl (us zE) zisE st ?_; clear st; intro g14 w14 st)
    | ((with_reducible show wpList _ _ _ (⟨none, .store 27 (.tmp 14) (.tmp 45), _, _, _, _⟩ :: _) _ _); refine wpList_store_st (o := ⟨none, _, _, _, _, _⟩) rfl 27 (.tmp 14) (.tmp 45) rfl g14 0 rfl (us (mulF (ofF b1) (ofF b2))) rfl 8 aggE.size (by first | omega | (simp; done) | (simp; omega)) st 0 _ _ rfl (by first | omega | (simp; done) | (simp; omega)) (us_one _) (us (mulF (ofF b1) (ofF b2))) (put_all _ _ 8 (by first | omega | (simp; done) | (simp; omega)) (by first | omega | (simp; done) | (simp; omega))) ?_; clear st; intro w_4 st))
  refine wp_region_stab [0, 1, 2, 3, 4, 5, 6, 7, 8, 9, 10, 11, 12, 13, 14, 15, 16, 17, 18, 19, 20, 21, 22, 23, 24, 25, 26, 27, 28, 29, 30, 31, 32, 33, 34, 35, 36, 37] (fun W => St w W [(g14, us (mulF (ofF b1) (ofF b2)), 27), (g13, us (addF (ofF b1) (ofF b2)), 27), (g11, us (ofF b3), 27), (g9, us (ofF b2), 27), (g7, us (ofF b1), 27), (g5, ys b3, 23), (g4, ys b2, 23), (g3, ys b1, 23)]) (by kernel_rfl) (by kernel_rfl) (by kernel_rfl) (fun _ _ d _ _ h => by cases d <;> exact h) st.drew ?_
  clear st
  refine stab_load (o := ⟨some 46, _, _, _, _, _⟩) rfl rfl 27 (.tmp 13) rfl g13 0 rfl 8 aggE (us (addF (ofF b1) (ofF b2))) _ (AG (us (addF (ofF b1) (ofF b2)))) (fun W hS => hS.get 1 rfl) (by first | omega | (simp; done) | (simp; omega)) (cut_all _ 8 (by first | omega | (simp; done) | (simp; omega))) ?_
  try simp only [Act.put, List.setIfInBounds_toArray, List.set_cons_zero, List.set_cons_succ]
  refine stab_load (o := ⟨some 47, _, _, _, _, _⟩) rfl rfl 27 (.tmp 9) rfl g9 0 rfl 8 aggE (us (ofF b2)) _ (AG (us (ofF b2))) (fun W hS => hS.get 3 rfl) (by first | omega | (simp; done) | (simp; omega)) (cut_all _ 8 (by first | omega | (simp; done) | (simp; omega))) ?_
  try simp only [Act.put, List.setIfInBounds_toArray, List.set_cons_zero, List.set_cons_succ]
  refine stab_load (o := ⟨some 48, _, _, _, _, _⟩) rfl rfl 27 (.tmp 7) rfl g7 0 rfl 8 aggE (us (ofF b1)) _ (AG (us (ofF b1))) (fun W hS => hS.get 4 rfl) (by first | omega | (simp; done) | (simp; omega)) (cut_all _ 8 (by first | omega | (simp; done) | (simp; omega))) ?_
  try simp only [Act.put, List.setIfInBounds_toArray, List.set_cons_zero, List.set_cons_succ]
  refine stab_call (o := ⟨some 49, _, _, _, _, _⟩) rfl rfl 14 [(.tmp 47), (.tmp 48)] _ rfl [(AG (us (ofF b2))), (AG (us (ofF b1)))] rfl (AG (us (addF (ofF b2) (ofF b1)))) (fun W => enters _ _ W _ Try.func14 rfl (by kernel_rfl)) (fun W hS => (add_e e2 e1 _).mono (by rintro e w' ⟨rfl, hb⟩; exact ⟨rfl, hS.call hb⟩)) ?_
  try simp only [Act.put, List.setIfInBounds_toArray, List.set_cons_zero, List.set_cons_succ]
  refine stab_call (o := ⟨some 50, _, _, _, _, _⟩) rfl rfl 22 [(.tmp 46), (.tmp 49)] _ rfl [(AG (us (addF (ofF b1) (ofF b2)))), (AG (us (addF (ofF b2) (ofF b1))))] rfl (.bool true) (fun W => enters _ _ W _ Try.func22 rfl (by kernel_rfl)) (fun W hS => (equal_e (add_E e1 e2) (add_E e2 e1) true (decide_eq_true (by grind)) _).mono (by rintro e w' ⟨rfl, hb⟩; exact ⟨rfl, hS.call hb⟩)) ?_
  try simp only [Act.put, List.setIfInBounds_toArray, List.set_cons_zero, List.set_cons_succ]
  refine stab_quiet (o := ⟨some 51, _, _, _, _, _⟩) (v := (.bool false)) rfl rfl (fun _ _ => by go_simp) ?_
  try simp only [Act.put, List.setIfInBounds_toArray, List.set_cons_zero, List.set_cons_succ]
  refine stab_quiet (o := ⟨some 52, _, _, _, _, _⟩) (v := (.bool false)) rfl rfl (fun _ _ => rfl) ?_
  try simp only [Act.put, List.setIfInBounds_toArray, List.set_cons_zero, List.set_cons_succ]
  refine stab_load (o := ⟨some 53, _, _, _, _, _⟩) rfl rfl 27 (.tmp 14) rfl g14 0 rfl 8 aggE (us (mulF (ofF b1) (ofF b2))) _ (AG (us (mulF (ofF b1) (ofF b2)))) (fun W hS => hS.get 0 rfl) (by first | omega | (simp; done) | (simp; omega)) (cut_all _ 8 (by first | omega | (simp; done) | (simp; omega))) ?_
  try simp only [Act.put, List.setIfInBounds_toArray, List.set_cons_zero, List.set_cons_succ]
  refine stab_load (o := ⟨some 54, _, _, _, _, _⟩) rfl rfl 27 (.tmp 9) rfl g9 0 rfl 8 aggE (us (ofF b2)) _ (AG (us (ofF b2))) (fun W hS => hS.get 3 rfl) (by first | omega | (simp; done) | (simp; omega)) (cut_all _ 8 (by first | omega | (simp; done) | (simp; omega))) ?_
  try simp only [Act.put, List.setIfInBounds_toArray, List.set_cons_zero, List.set_cons_succ]
  refine stab_load (o := ⟨some 55, _, _, _, _, _⟩) rfl rfl 27 (.tmp 7) rfl g7 0 rfl 8 aggE (us (ofF b1)) _ (AG (us (ofF b1))) (fun W hS => hS.get 4 rfl) (by first | omega | (simp; done) | (simp; omega)) (cut_all _ 8 (by first | omega | (simp; done) | (simp; omega))) ?_
  try simp only [Act.put, List.setIfInBounds_toArray, List.set_cons_zero, List.set_cons_succ]
  refine stab_call (o := ⟨some 56, _, _, _, _, _⟩) rfl rfl 34 [(.tmp 54), (.tmp 55)] _ rfl [(AG (us (ofF b2))), (AG (us (ofF b1)))] rfl (AG (us (mulF (ofF b2) (ofF b1)))) (fun W => enters _ _ W _ Try.func34 rfl (by kernel_rfl)) (fun W hS => (mul_e e2 e1 _).mono (by rintro e w' ⟨rfl, hb⟩; exact ⟨rfl, hS.call hb⟩)) ?_
  try simp only [Act.put, List.setIfInBounds_toArray, List.set_cons_zero, List.set_cons_succ]
  refine stab_call (o := ⟨some 57, _, _, _, _, _⟩) rfl rfl 22 [(.tmp 53), (.tmp 56)] _ rfl [(AG (us (mulF (ofF b1) (ofF b2)))), (AG (us (mulF (ofF b2) (ofF b1))))] rfl (.bool true) (fun W => enters _ _ W _ Try.func22 rfl (by kernel_rfl)) (fun W hS => (equal_e (mul_E e1 e2) (mul_E e2 e1) true (decide_eq_true (by grind)) _).mono (by rintro e w' ⟨rfl, hb⟩; exact ⟨rfl, hS.call hb⟩)) ?_
  try simp only [Act.put, List.setIfInBounds_toArray, List.set_cons_zero, List.set_cons_succ]
  refine stab_quiet (o := ⟨some 58, _, _, _, _, _⟩) (v := (.bool false)) rfl rfl (fun _ _ => by go_simp) ?_
  try simp only [Act.put, List.setIfInBounds_toArray, List.set_cons_zero, List.set_cons_succ]
  refine stab_quiet (o := ⟨some 59, _, _, _, _, _⟩) (v := (.bool false)) rfl rfl (fun _ _ => by go_simp) ?_
  try simp only [Act.put, List.setIfInBounds_toArray, List.set_cons_zero, List.set_cons_succ]
  refine stab_quiet (o := ⟨some 60, _, _, _, _, _⟩) (v := (.bool false)) rfl rfl (fun _ _ => rfl) ?_
  try simp only [Act.put, List.setIfInBounds_toArray, List.set_cons_zero, List.set_cons_succ]
  refine stab_load (o := ⟨some 61, _, _, _, _, _⟩) rfl rfl 27 (.tmp 13) rfl g13 0 rfl 8 aggE (us (addF (ofF b1) (ofF b2))) _ (AG (us (addF (ofF b1) (ofF b2)))) (fun W hS => hS.get 1 rfl) (by first | omega | (simp; done) | (simp; omega)) (cut_all _ 8 (by first | omega | (simp; done) | (simp; omega))) ?_
  try simp only [Act.put, List.setIfInBounds_toArray, List.set_cons_zero, List.set_cons_succ]
  refine stab_load (o := ⟨some 62, _, _, _, _, _⟩) rfl rfl 27 (.tmp 11) rfl g11 0 rfl 8 aggE (us (ofF b3)) _ (AG (us (ofF b3))) (fun W hS => hS.get 2 rfl) (by first | omega | (simp; done) | (simp; omega)) (cut_all _ 8 (by first | omega | (simp; done) | (simp; omega))) ?_
  try simp only [Act.put, List.setIfInBounds_toArray, List.set_cons_zero, List.set_cons_succ]
  refine stab_call (o := ⟨some 63, _, _, _, _, _⟩) rfl rfl 14 [(.tmp 61), (.tmp 62)] _ rfl [(AG (us (addF (ofF b1) (ofF b2)))), (AG (us (ofF b3)))] rfl (AG (us (addF (addF (ofF b1) (ofF b2)) (ofF b3)))) (fun W => enters _ _ W _ Try.func14 rfl (by kernel_rfl)) (fun W hS => (add_e (add_E e1 e2) e3 _).mono (by rintro e w' ⟨rfl, hb⟩; exact ⟨rfl, hS.call hb⟩)) ?_
  try simp only [Act.put, List.setIfInBounds_toArray, List.set_cons_zero, List.set_cons_succ]
  refine stab_load (o := ⟨some 64, _, _, _, _, _⟩) rfl rfl 27 (.tmp 7) rfl g7 0 rfl 8 aggE (us (ofF b1)) _ (AG (us (ofF b1))) (fun W hS => hS.get 4 rfl) (by first | omega | (simp; done) | (simp; omega)) (cut_all _ 8 (by first | omega | (simp; done) | (simp; omega))) ?_
  try simp only [Act.put, List.setIfInBounds_toArray, List.set_cons_zero, List.set_cons_succ]
  refine stab_load (o := ⟨some 65, _, _, _, _, _⟩) rfl rfl 27 (.tmp 9) rfl g9 0 rfl 8 aggE (us (ofF b2)) _ (AG (us (ofF b2))) (fun W hS => hS.get 3 rfl) (by first | omega | (simp; done) | (simp; omega)) (cut_all _ 8 (by first | omega | (simp; done) | (simp; omega))) ?_
  try simp only [Act.put, List.setIfInBounds_toArray, List.set_cons_zero, List.set_cons_succ]
  refine stab_load (o := ⟨some 66, _, _, _, _, _⟩) rfl rfl 27 (.tmp 11) rfl g11 0 rfl 8 aggE (us (ofF b3)) _ (AG (us (ofF b3))) (fun W hS => hS.get 2 rfl) (by first | omega | (simp; done) | (simp; omega)) (cut_all _ 8 (by first | omega | (simp; done) | (simp; omega))) ?_
  try simp only [Act.put, List.setIfInBounds_toArray, List.set_cons_zero, List.set_cons_succ]
  refine stab_call (o := ⟨some 67, _, _, _, _, _⟩) rfl rfl 14 [(.tmp 65), (.tmp 66)] _ rfl [(AG (us (ofF b2))), (AG (us (ofF b3)))] rfl (AG (us (addF (ofF b2) (ofF b3)))) (fun W => enters _ _ W _ Try.func14 rfl (by kernel_rfl)) (fun W hS => (add_e e2 e3 _).mono (by rintro e w' ⟨rfl, hb⟩; exact ⟨rfl, hS.call hb⟩)) ?_
  try simp only [Act.put, List.setIfInBounds_toArray, List.set_cons_zero, List.set_cons_succ]
  refine stab_call (o := ⟨some 68, _, _, _, _, _⟩) rfl rfl 14 [(.tmp 64), (.tmp 67)] _ rfl [(AG (us (ofF b1))), (AG (us (addF (ofF b2) (ofF b3))))] rfl (AG (us (addF (ofF b1) (addF (ofF b2) (ofF b3))))) (fun W => enters _ _ W _ Try.func14 rfl (by kernel_rfl)) (fun W hS => (add_e e1 (add_E e2 e3) _).mono (by rintro e w' ⟨rfl, hb⟩; exact ⟨rfl, hS.call hb⟩)) ?_
  try simp only [Act.put, List.setIfInBounds_toArray, List.set_cons_zero, List.set_cons_succ]
  refine stab_call (o := ⟨some 69, _, _, _, _, _⟩) rfl rfl 22 [(.tmp 63), (.tmp 68)] _ rfl [(AG (us (addF (addF (ofF b1) (ofF b2)) (ofF b3)))), (AG (us (addF (ofF b1) (addF (ofF b2) (ofF b3)))))] rfl (.bool true) (fun W => enters _ _ W _ Try.func22 rfl (by kernel_rfl)) (fun W hS => (equal_e (add_E (add_E e1 e2) e3) (add_E e1 (add_E e2 e3)) true (decide_eq_true (by grind)) _).mono (by rintro e w' ⟨rfl, hb⟩; exact ⟨rfl, hS.call hb⟩)) ?_
  try simp only [Act.put, List.setIfInBounds_toArray, List.set_cons_zero, List.set_cons_succ]
  refine stab_quiet (o := ⟨some 70, _, _, _, _, _⟩) (v := (.bool false)) rfl rfl (fun _ _ => by go_simp) ?_
  try simp only [Act.put, List.setIfInBounds_toArray, List.set_cons_zero, List.set_cons_succ]
  refine stab_quiet (o := ⟨some 71, _, _, _, _, _⟩) (v := (.bool false)) rfl rfl (fun _ _ => by go_simp) ?_
  try simp only [Act.put, List.setIfInBounds_toArray, List.set_cons_zero, List.set_cons_succ]
  refine stab_quiet (o := ⟨some 72, _, _, _, _, _⟩) (v := (.bool false)) rfl rfl (fun _ _ => rfl) ?_
  try simp only [Act.put, List.setIfInBounds_toArray, List.set_cons_zero, List.set_cons_succ]
  refine stab_load (o := ⟨some 73, _, _, _, _, _⟩) rfl rfl 27 (.tmp 14) rfl g14 0 rfl 8 aggE (us (mulF (ofF b1) (ofF b2))) _ (AG (us (mulF (ofF b1) (ofF b2)))) (fun W hS => hS.get 0 rfl) (by first | omega | (simp; done) | (simp; omega)) (cut_all _ 8 (by first | omega | (simp; done) | (simp; omega))) ?_
  try simp only [Act.put, List.setIfInBounds_toArray, List.set_cons_zero, List.set_cons_succ]
  refine stab_load (o := ⟨some 74, _, _, _, _, _⟩) rfl rfl 27 (.tmp 11) rfl g11 0 rfl 8 aggE (us (ofF b3)) _ (AG (us (ofF b3))) (fun W hS => hS.get 2 rfl) (by first | omega | (simp; done) | (simp; omega)) (cut_all _ 8 (by first | omega | (simp; done) | (simp; omega))) ?_
  try simp only [Act.put, List.setIfInBounds_toArray, List.set_cons_zero, List.set_cons_succ]
  refine stab_call (o := ⟨some 75, _, _, _, _, _⟩) rfl rfl 34 [(.tmp 73), (.tmp 74)] _ rfl [(AG (us (mulF (ofF b1) (ofF b2)))), (AG (us (ofF b3)))] rfl (AG (us (mulF (mulF (ofF b1) (ofF b2)) (ofF b3)))) (fun W => enters _ _ W _ Try.func34 rfl (by kernel_rfl)) (fun W hS => (mul_e (mul_E e1 e2) e3 _).mono (by rintro e w' ⟨rfl, hb⟩; exact ⟨rfl, hS.call hb⟩)) ?_
  try simp only [Act.put, List.setIfInBounds_toArray, List.set_cons_zero, List.set_cons_succ]
  refine stab_load (o := ⟨some 76, _, _, _, _, _⟩) rfl rfl 27 (.tmp 7) rfl g7 0 rfl 8 aggE (us (ofF b1)) _ (AG (us (ofF b1))) (fun W hS => hS.get 4 rfl) (by first | omega | (simp; done) | (simp; omega)) (cut_all _ 8 (by first | omega | (simp; done) | (simp; omega))) ?_
  try simp only [Act.put, List.setIfInBounds_toArray, List.set_cons_zero, List.set_cons_succ]
  refine stab_load (o := ⟨some 77, _, _, _, _, _⟩) rfl rfl 27 (.tmp 9) rfl g9 0 rfl 8 aggE (us (ofF b2)) _ (AG (us (ofF b2))) (fun W hS => hS.get 3 rfl) (by first | omega | (simp; done) | (simp; omega)) (cut_all _ 8 (by first | omega | (simp; done) | (simp; omega))) ?_
  try simp only [Act.put, List.setIfInBounds_toArray, List.set_cons_zero, List.set_cons_succ]
  refine stab_load (o := ⟨some 78, _, _, _, _, _⟩) rfl rfl 27 (.tmp 11) rfl g11 0 rfl 8 aggE (us (ofF b3)) _ (AG (us (ofF b3))) (fun W hS => hS.get 2 rfl) (by first | omega | (simp; done) | (simp; omega)) (cut_all _ 8 (by first | omega | (simp; done) | (simp; omega))) ?_
  try simp only [Act.put, List.setIfInBounds_toArray, List.set_cons_zero, List.set_cons_succ]
  refine stab_call (o := ⟨some 79, _, _, _, _, _⟩) rfl rfl 34 [(.tmp 77), (.tmp 78)] _ rfl [(AG (us (ofF b2))), (AG (us (ofF b3)))] rfl (AG (us (mulF (ofF b2) (ofF b3)))) (fun W => enters _ _ W _ Try.func34 rfl (by kernel_rfl)) (fun W hS => (mul_e e2 e3 _).mono (by rintro e w' ⟨rfl, hb⟩; exact ⟨rfl, hS.call hb⟩)) ?_
  try simp only [Act.put, List.setIfInBounds_toArray, List.set_cons_zero, List.set_cons_succ]
  refine stab_call (o := ⟨some 80, _, _, _, _, _⟩) rfl rfl 34 [(.tmp 76), (.tmp 79)] _ rfl [(AG (us (ofF b1))), (AG (us (mulF (ofF b2) (ofF b3))))] rfl (AG (us (mulF (ofF b1) (mulF (ofF b2) (ofF b3))))) (fun W => enters _ _ W _ Try.func34 rfl (by kernel_rfl)) (fun W hS => (mul_e e1 (mul_E e2 e3) _).mono (by rintro e w' ⟨rfl, hb⟩; exact ⟨rfl, hS.call hb⟩)) ?_
  try simp only [Act.put, List.setIfInBounds_toArray, List.set_cons_zero, List.set_cons_succ]
  refine stab_call (o := ⟨some 81, _, _, _, _, _⟩) rfl rfl 22 [(.tmp 75), (.tmp 80)] _ rfl [(AG (us (mulF (mulF (ofF b1) (ofF b2)) (ofF b3)))), (AG (us (mulF (ofF b1) (mulF (ofF b2) (ofF b3)))))] rfl (.bool true) (fun W => enters _ _ W _ Try.func22 rfl (by kernel_rfl)) (fun W hS => (equal_e (mul_E (mul_E e1 e2) e3) (mul_E e1 (mul_E e2 e3)) true (decide_eq_true (by grind)) _).mono (by rintro e w' ⟨rfl, hb⟩; exact ⟨rfl, hS.call hb⟩)) ?_
  try simp only [Act.put, List.setIfInBounds_toArray, List.set_cons_zero, List.set_cons_succ]
  refine stab_quiet (o := ⟨some 82, _, _, _, _, _⟩) (v := (.bool false)) rfl rfl (fun _ _ => by go_simp) ?_
  try simp only [Act.put, List.setIfInBounds_toArray, List.set_cons_zero, List.set_cons_succ]
  refine stab_quiet (o := ⟨some 83, _, _, _, _, _⟩) (v := (.bool false)) rfl rfl (fun _ _ => by go_simp) ?_
  try simp only [Act.put, List.setIfInBounds_toArray, List.set_cons_zero, List.set_cons_succ]
  refine stab_nil ?_
  intro w_r8 st
  go_wp2_with fail
  refine wp_region_stab [0, 1, 2, 3, 4, 5, 6, 7, 8, 9, 10, 11, 12, 13, 14, 15, 16, 17, 18, 19, 20, 21, 22, 23, 24, 25, 26, 27] (fun W => St w W [(g14, us (mulF (ofF b1) (ofF b2)), 27), (g13, us (addF (ofF b1) (ofF b2)), 27), (g11, us (ofF b3), 27), (g9, us (ofF b2), 27), (g7, us (ofF b1), 27), (g5, ys b3, 23), (g4, ys b2, 23), (g3, ys b1, 23)]) (by kernel_rfl) (by kernel_rfl) (by kernel_rfl) (fun _ _ d _ _ h => by cases d <;> exact h) st.drew ?_
  clear st
  refine stab_load (o := ⟨some 84, _, _, _, _, _⟩) rfl rfl 27 (.tmp 13) rfl g13 0 rfl 8 aggE (us (addF (ofF b1) (ofF b2))) _ (AG (us (addF (ofF b1) (ofF b2)))) (fun W hS => hS.get 1 rfl) (by first | omega | (simp; done) | (simp; omega)) (cut_all _ 8 (by first | omega | (simp; done) | (simp; omega))) ?_
  try simp only [Act.put, List.setIfInBounds_toArray, List.set_cons_zero, List.set_cons_succ]
  refine stab_load (o := ⟨some 85, _, _, _, _, _⟩) rfl rfl 27 (.tmp 11) rfl g11 0 rfl 8 aggE (us (ofF b3)) _ (AG (us (ofF b3))) (fun W hS => hS.get 2 rfl) (by first | omega | (simp; done) | (simp; omega)) (cut_all _ 8 (by first | omega | (simp; done) | (simp; omega))) ?_
  try simp only [Act.put, List.setIfInBounds_toArray, List.set_cons_zero, List.set_cons_succ]
  refine stab_call (o := ⟨some 86, _, _, _, _, _⟩) rfl rfl 34 [(.tmp 84), (.tmp 85)] _ rfl [(AG (us (addF (ofF b1) (ofF b2)))), (AG (us (ofF b3)))] rfl (AG (us (mulF (addF (ofF b1) (ofF b2)) (ofF b3)))) (fun W => enters _ _ W _ Try.func34 rfl (by kernel_rfl)) (fun W hS => (mul_e (add_E e1 e2) e3 _).mono (by rintro e w' ⟨rfl, hb⟩; exact ⟨rfl, hS.call hb⟩)) ?_
  try simp only [Act.put, List.setIfInBounds_toArray, List.set_cons_zero, List.set_cons_succ]
  refine stab_load (o := ⟨some 87, _, _, _, _, _⟩) rfl rfl 27 (.tmp 7) rfl g7 0 rfl 8 aggE (us (ofF b1)) _ (AG (us (ofF b1))) (fun W hS => hS.get 4 rfl) (by first | omega | (simp; done) | (simp; omega)) (cut_all _ 8 (by first | omega | (simp; done) | (simp; omega))) ?_
  try simp only [Act.put, List.setIfInBounds_toArray, List.set_cons_zero, List.set_cons_succ]
  refine stab_load (o := ⟨some 88, _, _, _, _, _⟩) rfl rfl 27 (.tmp 11) rfl g11 0 rfl 8 aggE (us (ofF b3)) _ (AG (us (ofF b3))) (fun W hS => hS.get 2 rfl) (by first | omega | (simp; done) | (simp; omega)) (cut_all _ 8 (by first | omega | (simp; done) | (simp; omega))) ?_
  try simp only [Act.put, List.setIfInBounds_toArray, List.set_cons_zero, List.set_cons_succ]
  refine stab_call (o := ⟨some 89, _, _, _, _, _⟩) rfl rfl 34 [(.tmp 87), (.tmp 88)] _ rfl [(AG (us (ofF b1))), (AG (us (ofF b3)))] rfl (AG (us (mulF (ofF b1) (ofF b3)))) (fun W => enters _ _ W _ Try.func34 rfl (by kernel_rfl)) (fun W hS => (mul_e e1 e3 _).mono (by rintro e w' ⟨rfl, hb⟩; exact ⟨rfl, hS.call hb⟩)) ?_
  try simp only [Act.put, List.setIfInBounds_toArray, List.set_cons_zero, List.set_cons_succ]
  refine stab_load (o := ⟨some 90, _, _, _, _, _⟩) rfl rfl 27 (.tmp 9) rfl g9 0 rfl 8 aggE (us (ofF b2)) _ (AG (us (ofF b2))) (fun W hS => hS.get 3 rfl) (by first | omega | (simp; done) | (simp; omega)) (cut_all _ 8 (by first | omega | (simp; done) | (simp; omega))) ?_
  try simp only [Act.put, List.setIfInBounds_toArray, List.set_cons_zero, List.set_cons_succ]
  refine stab_load (o := ⟨some 91, _, _, _, _, _⟩) rfl rfl 27 (.tmp 11) rfl g11 0 rfl 8 aggE (us (ofF b3)) _ (AG (us (ofF b3))) (fun W hS => hS.get 2 rfl) (by first | omega | (simp; done) | (simp; omega)) (cut_all _ 8 (by first | omega | (simp; done) | (simp; omega))) ?_
  try simp only [Act.put, List.setIfInBounds_toArray, List.set_cons_zero, List.set_cons_succ]
  refine stab_call (o := ⟨some 92, _, _, _, _, _⟩) rfl rfl 34 [(.tmp 90), (.tmp 91)] _ rfl [(AG (us (ofF b2))), (AG (us (ofF b3)))] rfl (AG (us (mulF (ofF b2) (ofF b3)))) (fun W => enters _ _ W _ Try.func34 rfl (by kernel_rfl)) (fun W hS => (mul_e e2 e3 _).mono (by rintro e w' ⟨rfl, hb⟩; exact ⟨rfl, hS.call hb⟩)) ?_
  try simp only [Act.put, List.setIfInBounds_toArray, List.set_cons_zero, List.set_cons_succ]
  refine stab_call (o := ⟨some 93, _, _, _, _, _⟩) rfl rfl 14 [(.tmp 89), (.tmp 92)] _ rfl [(AG (us (mulF (ofF b1) (ofF b3)))), (AG (us (mulF (ofF b2) (ofF b3))))] rfl (AG (us (addF (mulF (ofF b1) (ofF b3)) (mulF (ofF b2) (ofF b3))))) (fun W => enters _ _ W _ Try.func14 rfl (by kernel_rfl)) (fun W hS => (add_e (mul_E e1 e3) (mul_E e2 e3) _).mono (by rintro e w' ⟨rfl, hb⟩; exact ⟨rfl, hS.call hb⟩)) ?_
  try simp only [Act.put, List.setIfInBounds_toArray, List.set_cons_zero, List.set_cons_succ]
  refine stab_call (o := ⟨some 94, _, _, _, _, _⟩) rfl rfl 22 [(.tmp 86), (.tmp 93)] _ rfl [(AG (us (mulF (addF (ofF b1) (ofF b2)) (ofF b3)))), (AG (us (addF (mulF (ofF b1) (ofF b3)) (mulF (ofF b2) (ofF b3)))))] rfl (.bool true) (fun W => enters _ _ W _ Try.func22 rfl (by kernel_rfl)) (fun W hS => (equal_e (mul_E (add_E e1 e2) e3) (add_E (mul_E e1 e3) (mul_E e2 e3)) true (decide_eq_true (by grind)) _).mono (by rintro e w' ⟨rfl, hb⟩; exact ⟨rfl, hS.call hb⟩)) ?_
  try simp only [Act.put, List.setIfInBounds_toArray, List.set_cons_zero, List.set_cons_succ]
  refine stab_quiet (o := ⟨some 95, _, _, _, _, _⟩) (v := (.bool false)) rfl rfl (fun _ _ => by go_simp) ?_
  try simp only [Act.put, List.setIfInBounds_toArray, List.set_cons_zero, List.set_cons_succ]
  refine stab_quiet (o := ⟨some 96, _, _, _, _, _⟩) (v := (.bool false)) rfl rfl (fun _ _ => rfl) ?_
  try simp only [Act.put, List.setIfInBounds_toArray, List.set_cons_zero, List.set_cons_succ]
  refine stab_load (o := ⟨some 97, _, _, _, _, _⟩) rfl rfl 27 (.tmp 13) rfl g13 0 rfl 8 aggE (us (addF (ofF b1) (ofF b2))) _ (AG (us (addF (ofF b1) (ofF b2)))) (fun W hS => hS.get 1 rfl) (by first | omega | (simp; done) | (simp; omega)) (cut_all _ 8 (by first | omega | (simp; done) | (simp; omega))) ?_
  try simp only [Act.put, List.setIfInBounds_toArray, List.set_cons_zero, List.set_cons_succ]
  refine stab_load (o := ⟨some 98, _, _, _, _, _⟩) rfl rfl 27 (.tmp 9) rfl g9 0 rfl 8 aggE (us (ofF b2)) _ (AG (us (ofF b2))) (fun W hS => hS.get 3 rfl) (by first | omega | (simp; done) | (simp; omega)) (cut_all _ 8 (by first | omega | (simp; done) | (simp; omega))) ?_
  try simp only [Act.put, List.setIfInBounds_toArray, List.set_cons_zero, List.set_cons_succ]
  refine stab_call (o := ⟨some 99, _, _, _, _, _⟩) rfl rfl 16 [(.tmp 97), (.tmp 98)] _ rfl [(AG (us (addF (ofF b1) (ofF b2)))), (AG (us (ofF b2)))] rfl (AG (us (subF (addF (ofF b1) (ofF b2)) (ofF b2)))) (fun W => enters _ _ W _ Try.func16 rfl (by kernel_rfl)) (fun W hS => (sub_e (add_E e1 e2) e2 _).mono (by rintro e w' ⟨rfl, hb⟩; exact ⟨rfl, hS.call hb⟩)) ?_
  try simp only [Act.put, List.setIfInBounds_toArray, List.set_cons_zero, List.set_cons_succ]
  refine stab_load (o := ⟨some 100, _, _, _, _, _⟩) rfl rfl 27 (.tmp 7) rfl g7 0 rfl 8 aggE (us (ofF b1)) _ (AG (us (ofF b1))) (fun W hS => hS.get 4 rfl) (by first | omega | (simp; done) | (simp; omega)) (cut_all _ 8 (by first | omega | (simp; done) | (simp; omega))) ?_
  try simp only [Act.put, List.setIfInBounds_toArray, List.set_cons_zero, List.set_cons_succ]
  refine stab_call (o := ⟨some 101, _, _, _, _, _⟩) rfl rfl 22 [(.tmp 99), (.tmp 100)] _ rfl [(AG (us (subF (addF (ofF b1) (ofF b2)) (ofF b2)))), (AG (us (ofF b1)))] rfl (.bool true) (fun W => enters _ _ W _ Try.func22 rfl (by kernel_rfl)) (fun W hS => (equal_e (sub_E (add_E e1 e2) e2) e1 true (decide_eq_true (by grind)) _).mono (by rintro e w' ⟨rfl, hb⟩; exact ⟨rfl, hS.call hb⟩)) ?_
  try simp only [Act.put, List.setIfInBounds_toArray, List.set_cons_zero, List.set_cons_succ]
  refine stab_quiet (o := ⟨some 102, _, _, _, _, _⟩) (v := (.bool false)) rfl rfl (fun _ _ => by go_simp) ?_
  try simp only [Act.put, List.setIfInBounds_toArray, List.set_cons_zero, List.set_cons_succ]
  refine stab_quiet (o := ⟨some 103, _, _, _, _, _⟩) (v := (.bool false)) rfl rfl (fun _ _ => by go_simp) ?_
  try simp only [Act.put, List.setIfInBounds_toArray, List.set_cons_zero, List.set_cons_succ]
  refine stab_quiet (o := ⟨some 104, _, _, _, _, _⟩) (v := (.bool false)) rfl rfl (fun _ _ => rfl) ?_
  try simp only [Act.put, List.setIfInBounds_toArray, List.set_cons_zero, List.set_cons_succ]
  refine stab_load (o := ⟨some 105, _, _, _, _, _⟩) rfl rfl 27 (.tmp 7) rfl g7 0 rfl 8 aggE (us (ofF b1)) _ (AG (us (ofF b1))) (fun W hS => hS.get 4 rfl) (by first | omega | (simp; done) | (simp; omega)) (cut_all _ 8 (by first | omega | (simp; done) | (simp; omega))) ?_
  try simp only [Act.put, List.setIfInBounds_toArray, List.set_cons_zero, List.set_cons_succ]
  refine stab_call (o := ⟨some 106, _, _, _, _, _⟩) rfl rfl 35 [(.const (.int .i64 1))] _ rfl [(.int .i64 1)] rfl (AG (us (intF (1)))) (fun W => enters _ _ W _ Try.func35 rfl (by kernel_rfl)) (fun W hS => (int_any (1) _).mono (by rintro e w' ⟨rfl, hb⟩; exact ⟨rfl, hS.call hb⟩)) ?_
  try simp only [Act.put, List.setIfInBounds_toArray, List.set_cons_zero, List.set_cons_succ]
  refine stab_call (o := ⟨some 107, _, _, _, _, _⟩) rfl rfl 34 [(.tmp 105), (.tmp 106)] _ rfl [(AG (us (ofF b1))), (AG (us (intF (1))))] rfl (AG (us (mulF (ofF b1) (intF (1))))) (fun W => enters _ _ W _ Try.func34 rfl (by kernel_rfl)) (fun W hS => (mul_e e1 one_E _).mono (by rintro e w' ⟨rfl, hb⟩; exact ⟨rfl, hS.call hb⟩)) ?_
  try simp only [Act.put, List.setIfInBounds_toArray, List.set_cons_zero, List.set_cons_succ]
  refine stab_load (o := ⟨some 108, _, _, _, _, _⟩) rfl rfl 27 (.tmp 7) rfl g7 0 rfl 8 aggE (us (ofF b1)) _ (AG (us (ofF b1))) (fun W hS => hS.get 4 rfl) (by first | omega | (simp; done) | (simp; omega)) (cut_all _ 8 (by first | omega | (simp; done) | (simp; omega))) ?_
  try simp only [Act.put, List.setIfInBounds_toArray, List.set_cons_zero, List.set_cons_succ]
  refine stab_call (o := ⟨some 109, _, _, _, _, _⟩) rfl rfl 22 [(.tmp 107), (.tmp 108)] _ rfl [(AG (us (mulF (ofF b1) (intF (1))))), (AG (us (ofF b1)))] rfl (.bool true) (fun W => enters _ _ W _ Try.func22 rfl (by kernel_rfl)) (fun W hS => (equal_e (mul_E e1 one_E) e1 true (decide_eq_true (by grind)) _).mono (by rintro e w' ⟨rfl, hb⟩; exact ⟨rfl, hS.call hb⟩)) ?_
  try simp only [Act.put, List.setIfInBounds_toArray, List.set_cons_zero, List.set_cons_succ]
  refine stab_quiet (o := ⟨some 110, _, _, _, _, _⟩) (v := (.bool false)) rfl rfl (fun _ _ => by go_simp) ?_
  try simp only [Act.put, List.setIfInBounds_toArray, List.set_cons_zero, List.set_cons_succ]
  refine stab_quiet (o := ⟨some 111, _, _, _, _, _⟩) (v := (.bool false)) rfl rfl (fun _ _ => by go_simp) ?_
  try simp only [Act.put, List.setIfInBounds_toArray, List.set_cons_zero, List.set_cons_succ]
  refine stab_nil ?_
  intro w_r10 st
  go_wp2_with fail
  by_cases ha : a1 = 0
  · skip
    go_wp2_with fail
    refine wp_region_stab [0, 1, 2, 3, 4, 5, 6, 7, 8, 9, 10, 11, 12, 13, 14, 15, 16, 17, 18, 19] (fun W => St w W [(g14, us (mulF (ofF b1) (ofF b2)), 27), (g13, us (addF (ofF b1) (ofF b2)), 27), (g11, us (ofF b3), 27), (g9, us (ofF b2), 27), (g7, us (ofF b1), 27), (g5, ys b3, 23), (g4, ys b2, 23), (g3, ys b1, 23)]) (by kernel_rfl) (by kernel_rfl) (by kernel_rfl) (fun _ _ d _ _ h => by cases d <;> exact h) st.drew ?_
    clear st
    refine stab_load (o := ⟨some 112, _, _, _, _, _⟩) rfl rfl 27 (.tmp 14) rfl g14 0 rfl 8 aggE (us (mulF (ofF b1) (ofF b2))) _ (AG (us (mulF (ofF b1) (ofF b2)))) (fun W hS => hS.get 0 rfl) (by first | omega | (simp; done) | (simp; omega)) (cut_all _ 8 (by first | omega | (simp; done) | (simp; omega))) ?_
    try simp only [Act.put, List.setIfInBounds_toArray, List.set_cons_zero, List.set_cons_succ]
    refine stab_call (o := ⟨some 113, _, _, _, _, _⟩) rfl rfl 24 [(.tmp 112)] _ rfl [(AG (us (mulF (ofF b1) (ofF b2))))] rfl (.bool true) (fun W => enters _ _ W _ Try.func24 rfl (by kernel_rfl)) (fun W hS => (zero_e (mul_E e1 e2) true (decide_eq_true (by rw [ha]; grind)) _).mono (by rintro e w' ⟨rfl, hb⟩; exact ⟨rfl, hS.call hb⟩)) ?_
    try simp only [Act.put, List.setIfInBounds_toArray, List.set_cons_zero, List.set_cons_succ]
    refine stab_load (o := ⟨some 114, _, _, _, _, _⟩) rfl rfl 27 (.tmp 7) rfl g7 0 rfl 8 aggE (us (ofF b1)) _ (AG (us (ofF b1))) (fun W hS => hS.get 4 rfl) (by first | omega | (simp; done) | (simp; omega)) (cut_all _ 8 (by first | omega | (simp; done) | (simp; omega))) ?_
    try simp only [Act.put, List.setIfInBounds_toArray, List.set_cons_zero, List.set_cons_succ]
    refine stab_call (o := ⟨some 115, _, _, _, _, _⟩) rfl rfl 24 [(.tmp 114)] _ rfl [(AG (us (ofF b1)))] rfl (.bool true) (fun W => enters _ _ W _ Try.func24 rfl (by kernel_rfl)) (fun W hS => (zero_e e1 true (decide_eq_true ha) _).mono (by rintro e w' ⟨rfl, hb⟩; exact ⟨rfl, hS.call hb⟩)) ?_
    try simp only [Act.put, List.setIfInBounds_toArray, List.set_cons_zero, List.set_cons_succ]
    refine stab_quiet (o := ⟨some 116, _, _, _, _, _⟩) (v := (.bool true)) rfl rfl (fun _ _ => rfl) ?_
    try simp only [Act.put, List.setIfInBounds_toArray, List.set_cons_zero, List.set_cons_succ]
    refine stab_pass (o := ⟨some 117, _, _, _, _, _⟩) rfl rfl ?_
    try simp only [Act.put, List.setIfInBounds_toArray, List.set_cons_zero, List.set_cons_succ]
    refine stab_pass (o := ⟨some 118, _, _, _, _, _⟩) rfl rfl ?_
    try simp only [Act.put, List.setIfInBounds_toArray, List.set_cons_zero, List.set_cons_succ]
    refine stab_quiet (o := ⟨some 119, _, _, _, _, _⟩) (v := (.bool true)) rfl rfl (fun _ _ => by go_simp) ?_
    try simp only [Act.put, List.setIfInBounds_toArray, List.set_cons_zero, List.set_cons_succ]
    refine stab_quiet (o := ⟨some 120, _, _, _, _, _⟩) (v := (.bool true)) rfl rfl (fun _ _ => by go_simp) ?_
    try simp only [Act.put, List.setIfInBounds_toArray, List.set_cons_zero, List.set_cons_succ]
    refine stab_quiet (o := ⟨some 121, _, _, _, _, _⟩) (v := (.bool true)) rfl rfl (fun _ _ => rfl) ?_
    try simp only [Act.put, List.setIfInBounds_toArray, List.set_cons_zero, List.set_cons_succ]
    refine stab_load (o := ⟨some 122, _, _, _, _, _⟩) rfl rfl 27 (.tmp 7) rfl g7 0 rfl 8 aggE (us (ofF b1)) _ (AG (us (ofF b1))) (fun W hS => hS.get 4 rfl) (by first | omega | (simp; done) | (simp; omega)) (cut_all _ 8 (by first | omega | (simp; done) | (simp; omega))) ?_
    try simp only [Act.put, List.setIfInBounds_toArray, List.set_cons_zero, List.set_cons_succ]
    refine stab_load (o := ⟨some 123, _, _, _, _, _⟩) rfl rfl 27 (.tmp 7) rfl g7 0 rfl 8 aggE (us (ofF b1)) _ (AG (us (ofF b1))) (fun W hS => hS.get 4 rfl) (by first | omega | (simp; done) | (simp; omega)) (cut_all _ 8 (by first | omega | (simp; done) | (simp; omega))) ?_
    try simp only [Act.put, List.setIfInBounds_toArray, List.set_cons_zero, List.set_cons_succ]
    refine stab_call (o := ⟨some 124, _, _, _, _, _⟩) rfl rfl 18 [(.tmp 123)] _ rfl [(AG (us (ofF b1)))] rfl (AG (us (negF (ofF b1)))) (fun W => enters _ _ W _ Try.func18 rfl (by kernel_rfl)) (fun W hS => (neg_e e1 _).mono (by rintro e w' ⟨rfl, hb⟩; exact ⟨rfl, hS.call hb⟩)) ?_
    try simp only [Act.put, List.setIfInBounds_toArray, List.set_cons_zero, List.set_cons_succ]
    refine stab_call (o := ⟨some 125, _, _, _, _, _⟩) rfl rfl 14 [(.tmp 122), (.tmp 124)] _ rfl [(AG (us (ofF b1))), (AG (us (negF (ofF b1))))] rfl (AG (us (addF (ofF b1) (negF (ofF b1))))) (fun W => enters _ _ W _ Try.func14 rfl (by kernel_rfl)) (fun W hS => (add_e e1 (neg_E e1) _).mono (by rintro e w' ⟨rfl, hb⟩; exact ⟨rfl, hS.call hb⟩)) ?_
    try simp only [Act.put, List.setIfInBounds_toArray, List.set_cons_zero, List.set_cons_succ]
    refine stab_call (o := ⟨some 126, _, _, _, _, _⟩) rfl rfl 24 [(.tmp 125)] _ rfl [(AG (us (addF (ofF b1) (negF (ofF b1)))))] rfl (.bool true) (fun W => enters _ _ W _ Try.func24 rfl (by kernel_rfl)) (fun W hS => (zero_e (add_E e1 (neg_E e1)) true (decide_eq_true (by grind)) _).mono (by rintro e w' ⟨rfl, hb⟩; exact ⟨rfl, hS.call hb⟩)) ?_
    try simp only [Act.put, List.setIfInBounds_toArray, List.set_cons_zero, List.set_cons_succ]
    refine stab_quiet (o := ⟨some 127, _, _, _, _, _⟩) (v := (.bool true)) rfl rfl (fun _ _ => by go_simp) ?_
    try simp only [Act.put, List.setIfInBounds_toArray, List.set_cons_zero, List.set_cons_succ]
    refine stab_quiet (o := ⟨some 128, _, _, _, _, _⟩) (v := (.bool true)) rfl rfl (fun _ _ => rfl) ?_
    try simp only [Act.put, List.setIfInBounds_toArray, List.set_cons_zero, List.set_cons_succ]
    refine stab_call (o := ⟨some 129, _, _, _, _, _⟩) rfl rfl 20 [] _ rfl [] rfl (.bool true) (fun W => enters _ _ W _ Try.func20 rfl (by kernel_rfl)) (fun W hS => (awake_any _).mono (by rintro e w' ⟨rfl, hb⟩; exact ⟨rfl, hS.call hb⟩)) ?_
    try simp only [Act.put, List.setIfInBounds_toArray, List.set_cons_zero, List.set_cons_succ]
    refine stab_quiet (o := ⟨some 130, _, _, _, _, _⟩) (v := (.bool true)) rfl rfl (fun _ _ => by go_simp) ?_
    try simp only [Act.put, List.setIfInBounds_toArray, List.set_cons_zero, List.set_cons_succ]
    refine stab_quiet (o := ⟨some 6, _, _, _, _, _⟩) (v := (.bool true)) rfl rfl (fun _ _ => rfl) ?_
    try simp only [Act.put, List.setIfInBounds_toArray, List.set_cons_zero, List.set_cons_succ]
    refine stab_nil ?_
    intro w_r12 st
    go_wp2_with fail
    go_ret
    exact ⟨rfl, st.below⟩
  · by_cases hb0 : a2 = 0
    · skip
      go_wp2_with fail
      refine wp_region_stab [0, 1, 2, 3, 4, 5, 6, 7, 8, 9, 10, 11, 12, 13, 14, 15, 16, 17, 18, 19] (fun W => St w W [(g14, us (mulF (ofF b1) (ofF b2)), 27), (g13, us (addF (ofF b1) (ofF b2)), 27), (g11, us (ofF b3), 27), (g9, us (ofF b2), 27), (g7, us (ofF b1), 27), (g5, ys b3, 23), (g4, ys b2, 23), (g3, ys b1, 23)]) (by kernel_rfl) (by kernel_rfl) (by kernel_rfl) (fun _ _ d _ _ h => by cases d <;> exact h) st.drew ?_
      clear st
      refine stab_load (o := ⟨some 112, _, _, _, _, _⟩) rfl rfl 27 (.tmp 14) rfl g14 0 rfl 8 aggE (us (mulF (ofF b1) (ofF b2))) _ (AG (us (mulF (ofF b1) (ofF b2)))) (fun W hS => hS.get 0 rfl) (by first | omega | (simp; done) | (simp; omega)) (cut_all _ 8 (by first | omega | (simp; done) | (simp; omega))) ?_
      try simp only [Act.put, List.setIfInBounds_toArray, List.set_cons_zero, List.set_cons_succ]
      refine stab_call (o := ⟨some 113, _, _, _, _, _⟩) rfl rfl 24 [(.tmp 112)] _ rfl [(AG (us (mulF (ofF b1) (ofF b2))))] rfl (.bool true) (fun W => enters _ _ W _ Try.func24 rfl (by kernel_rfl)) (fun W hS => (zero_e (mul_E e1 e2) true (decide_eq_true (by rw [hb0]; grind)) _).mono (by rintro e w' ⟨rfl, hb⟩; exact ⟨rfl, hS.call hb⟩)) ?_
      try simp only [Act.put, List.setIfInBounds_toArray, List.set_cons_zero, List.set_cons_succ]
      refine stab_load (o := ⟨some 114, _, _, _, _, _⟩) rfl rfl 27 (.tmp 7) rfl g7 0 rfl 8 aggE (us (ofF b1)) _ (AG (us (ofF b1))) (fun W hS => hS.get 4 rfl) (by first | omega | (simp; done) | (simp; omega)) (cut_all _ 8 (by first | omega | (simp; done) | (simp; omega))) ?_
      try simp only [Act.put, List.setIfInBounds_toArray, List.set_cons_zero, List.set_cons_succ]
      refine stab_call (o := ⟨some 115, _, _, _, _, _⟩) rfl rfl 24 [(.tmp 114)] _ rfl [(AG (us (ofF b1)))] rfl (.bool false) (fun W => enters _ _ W _ Try.func24 rfl (by kernel_rfl)) (fun W hS => (zero_e e1 false (decide_eq_false ha) _).mono (by rintro e w' ⟨rfl, hb⟩; exact ⟨rfl, hS.call hb⟩)) ?_
      try simp only [Act.put, List.setIfInBounds_toArray, List.set_cons_zero, List.set_cons_succ]
      refine stab_quiet (o := ⟨some 116, _, _, _, _, _⟩) (v := (.bool false)) rfl rfl (fun _ _ => rfl) ?_
      try simp only [Act.put, List.setIfInBounds_toArray, List.set_cons_zero, List.set_cons_succ]
      refine stab_load (o := ⟨some 117, _, _, _, _, _⟩) rfl rfl 27 (.tmp 9) rfl g9 0 rfl 8 aggE (us (ofF b2)) _ (AG (us (ofF b2))) (fun W hS => hS.get 3 rfl) (by first | omega | (simp; done) | (simp; omega)) (cut_all _ 8 (by first | omega | (simp; done) | (simp; omega))) ?_
      try simp only [Act.put, List.setIfInBounds_toArray, List.set_cons_zero, List.set_cons_succ]
      refine stab_call (o := ⟨some 118, _, _, _, _, _⟩) rfl rfl 24 [(.tmp 117)] _ rfl [(AG (us (ofF b2)))] rfl (.bool true) (fun W => enters _ _ W _ Try.func24 rfl (by kernel_rfl)) (fun W hS => (zero_e e2 true (decide_eq_true hb0) _).mono (by rintro e w' ⟨rfl, hb⟩; exact ⟨rfl, hS.call hb⟩)) ?_
      try simp only [Act.put, List.setIfInBounds_toArray, List.set_cons_zero, List.set_cons_succ]
      refine stab_quiet (o := ⟨some 119, _, _, _, _, _⟩) (v := (.bool true)) rfl rfl (fun _ _ => by go_simp) ?_
      try simp only [Act.put, List.setIfInBounds_toArray, List.set_cons_zero, List.set_cons_succ]
      refine stab_quiet (o := ⟨some 120, _, _, _, _, _⟩) (v := (.bool true)) rfl rfl (fun _ _ => by go_simp) ?_
      try simp only [Act.put, List.setIfInBounds_toArray, List.set_cons_zero, List.set_cons_succ]
      refine stab_quiet (o := ⟨some 121, _, _, _, _, _⟩) (v := (.bool true)) rfl rfl (fun _ _ => rfl) ?_
      try simp only [Act.put, List.setIfInBounds_toArray, List.set_cons_zero, List.set_cons_succ]
      refine stab_load (o := ⟨some 122, _, _, _, _, _⟩) rfl rfl 27 (.tmp 7) rfl g7 0 rfl 8 aggE (us (ofF b1)) _ (AG (us (ofF b1))) (fun W hS => hS.get 4 rfl) (by first | omega | (simp; done) | (simp; omega)) (cut_all _ 8 (by first | omega | (simp; done) | (simp; omega))) ?_
      try simp only [Act.put, List.setIfInBounds_toArray, List.set_cons_zero, List.set_cons_succ]
      refine stab_load (o := ⟨some 123, _, _, _, _, _⟩) rfl rfl 27 (.tmp 7) rfl g7 0 rfl 8 aggE (us (ofF b1)) _ (AG (us (ofF b1))) (fun W hS => hS.get 4 rfl) (by first | omega | (simp; done) | (simp; omega)) (cut_all _ 8 (by first | omega | (simp; done) | (simp; omega))) ?_
      try simp only [Act.put, List.setIfInBounds_toArray, List.set_cons_zero, List.set_cons_succ]
      refine stab_call (o := ⟨some 124, _, _, _, _, _⟩) rfl rfl 18 [(.tmp 123)] _ rfl [(AG (us (ofF b1)))] rfl (AG (us (negF (ofF b1)))) (fun W => enters _ _ W _ Try.func18 rfl (by kernel_rfl)) (fun W hS => (neg_e e1 _).mono (by rintro e w' ⟨rfl, hb⟩; exact ⟨rfl, hS.call hb⟩)) ?_
      try simp only [Act.put, List.setIfInBounds_toArray, List.set_cons_zero, List.set_cons_succ]
      refine stab_call (o := ⟨some 125, _, _, _, _, _⟩) rfl rfl 14 [(.tmp 122), (.tmp 124)] _ rfl [(AG (us (ofF b1))), (AG (us (negF (ofF b1))))] rfl (AG (us (addF (ofF b1) (negF (ofF b1))))) (fun W => enters _ _ W _ Try.func14 rfl (by kernel_rfl)) (fun W hS => (add_e e1 (neg_E e1) _).mono (by rintro e w' ⟨rfl, hb⟩; exact ⟨rfl, hS.call hb⟩)) ?_
      try simp only [Act.put, List.setIfInBounds_toArray, List.set_cons_zero, List.set_cons_succ]
      refine stab_call (o := ⟨some 126, _, _, _, _, _⟩) rfl rfl 24 [(.tmp 125)] _ rfl [(AG (us (addF (ofF b1) (negF (ofF b1)))))] rfl (.bool true) (fun W => enters _ _ W _ Try.func24 rfl (by kernel_rfl)) (fun W hS => (zero_e (add_E e1 (neg_E e1)) true (decide_eq_true (by grind)) _).mono (by rintro e w' ⟨rfl, hb⟩; exact ⟨rfl, hS.call hb⟩)) ?_
      try simp only [Act.put, List.setIfInBounds_toArray, List.set_cons_zero, List.set_cons_succ]
      refine stab_quiet (o := ⟨some 127, _, _, _, _, _⟩) (v := (.bool true)) rfl rfl (fun _ _ => by go_simp) ?_
      try simp only [Act.put, List.setIfInBounds_toArray, List.set_cons_zero, List.set_cons_succ]
      refine stab_quiet (o := ⟨some 128, _, _, _, _, _⟩) (v := (.bool true)) rfl rfl (fun _ _ => rfl) ?_
      try simp only [Act.put, List.setIfInBounds_toArray, List.set_cons_zero, List.set_cons_succ]
      refine stab_call (o := ⟨some 129, _, _, _, _, _⟩) rfl rfl 20 [] _ rfl [] rfl (.bool true) (fun W => enters _ _ W _ Try.func20 rfl (by kernel_rfl)) (fun W hS => (awake_any _).mono (by rintro e w' ⟨rfl, hb⟩; exact ⟨rfl, hS.call hb⟩)) ?_
      try simp only [Act.put, List.setIfInBounds_toArray, List.set_cons_zero, List.set_cons_succ]
      refine stab_quiet (o := ⟨some 130, _, _, _, _, _⟩) (v := (.bool true)) rfl rfl (fun _ _ => by go_simp) ?_
      try simp only [Act.put, List.setIfInBounds_toArray, List.set_cons_zero, List.set_cons_succ]
      refine stab_quiet (o := ⟨some 6, _, _, _, _, _⟩) (v := (.bool true)) rfl rfl (fun _ _ => rfl) ?_
      try simp only [Act.put, List.setIfInBounds_toArray, List.set_cons_zero, List.set_cons_succ]
      refine stab_nil ?_
      intro w_r12 st
      go_wp2_with fail
      go_ret
      exact ⟨rfl, st.below⟩
    · skip
      go_wp2_with fail
      refine wp_region_stab [0, 1, 2, 3, 4, 5, 6, 7, 8, 9, 10, 11, 12, 13, 14, 15, 16, 17, 18, 19] (fun W => St w W [(g14, us (mulF (ofF b1) (ofF b2)), 27), (g13, us (addF (ofF b1) (ofF b2)), 27), (g11, us (ofF b3), 27), (g9, us (ofF b2), 27), (g7, us (ofF b1), 27), (g5, ys b3, 23), (g4, ys b2, 23), (g3, ys b1, 23)]) (by kernel_rfl) (by kernel_rfl) (by kernel_rfl) (fun _ _ d _ _ h => by cases d <;> exact h) st.drew ?_
      clear st
      refine stab_load (o := ⟨some 112, _, _, _, _, _⟩) rfl rfl 27 (.tmp 14) rfl g14 0 rfl 8 aggE (us (mulF (ofF b1) (ofF b2))) _ (AG (us (mulF (ofF b1) (ofF b2)))) (fun W hS => hS.get 0 rfl) (by first | omega | (simp; done) | (simp; omega)) (cut_all _ 8 (by first | omega | (simp; done) | (simp; omega))) ?_
      try simp only [Act.put, List.setIfInBounds_toArray, List.set_cons_zero, List.set_cons_succ]
      refine stab_call (o := ⟨some 113, _, _, _, _, _⟩) rfl rfl 24 [(.tmp 112)] _ rfl [(AG (us (mulF (ofF b1) (ofF b2))))] rfl (.bool false) (fun W => enters _ _ W _ Try.func24 rfl (by kernel_rfl)) (fun W hS => (zero_e (mul_E e1 e2) false (decide_eq_false (mul_ne ha hb0)) _).mono (by rintro e w' ⟨rfl, hb⟩; exact ⟨rfl, hS.call hb⟩)) ?_
      try simp only [Act.put, List.setIfInBounds_toArray, List.set_cons_zero, List.set_cons_succ]
      refine stab_load (o := ⟨some 114, _, _, _, _, _⟩) rfl rfl 27 (.tmp 7) rfl g7 0 rfl 8 aggE (us (ofF b1)) _ (AG (us (ofF b1))) (fun W hS => hS.get 4 rfl) (by first | omega | (simp; done) | (simp; omega)) (cut_all _ 8 (by first | omega | (simp; done) | (simp; omega))) ?_
      try simp only [Act.put, List.setIfInBounds_toArray, List.set_cons_zero, List.set_cons_succ]
      refine stab_call (o := ⟨some 115, _, _, _, _, _⟩) rfl rfl 24 [(.tmp 114)] _ rfl [(AG (us (ofF b1)))] rfl (.bool false) (fun W => enters _ _ W _ Try.func24 rfl (by kernel_rfl)) (fun W hS => (zero_e e1 false (decide_eq_false ha) _).mono (by rintro e w' ⟨rfl, hb⟩; exact ⟨rfl, hS.call hb⟩)) ?_
      try simp only [Act.put, List.setIfInBounds_toArray, List.set_cons_zero, List.set_cons_succ]
      refine stab_quiet (o := ⟨some 116, _, _, _, _, _⟩) (v := (.bool false)) rfl rfl (fun _ _ => rfl) ?_
      try simp only [Act.put, List.setIfInBounds_toArray, List.set_cons_zero, List.set_cons_succ]
      refine stab_load (o := ⟨some 117, _, _, _, _, _⟩) rfl rfl 27 (.tmp 9) rfl g9 0 rfl 8 aggE (us (ofF b2)) _ (AG (us (ofF b2))) (fun W hS => hS.get 3 rfl) (by first | omega | (simp; done) | (simp; omega)) (cut_all _ 8 (by first | omega | (simp; done) | (simp; omega))) ?_
      try simp only [Act.put, List.setIfInBounds_toArray, List.set_cons_zero, List.set_cons_succ]
      refine stab_call (o := ⟨some 118, _, _, _, _, _⟩) rfl rfl 24 [(.tmp 117)] _ rfl [(AG (us (ofF b2)))] rfl (.bool false) (fun W => enters _ _ W _ Try.func24 rfl (by kernel_rfl)) (fun W hS => (zero_e e2 false (decide_eq_false hb0) _).mono (by rintro e w' ⟨rfl, hb⟩; exact ⟨rfl, hS.call hb⟩)) ?_
      try simp only [Act.put, List.setIfInBounds_toArray, List.set_cons_zero, List.set_cons_succ]
      refine stab_quiet (o := ⟨some 119, _, _, _, _, _⟩) (v := (.bool false)) rfl rfl (fun _ _ => by go_simp) ?_
      try simp only [Act.put, List.setIfInBounds_toArray, List.set_cons_zero, List.set_cons_succ]
      refine stab_quiet (o := ⟨some 120, _, _, _, _, _⟩) (v := (.bool true)) rfl rfl (fun _ _ => by go_simp) ?_
      try simp only [Act.put, List.setIfInBounds_toArray, List.set_cons_zero, List.set_cons_succ]
      refine stab_quiet (o := ⟨some 121, _, _, _, _, _⟩) (v := (.bool true)) rfl rfl (fun _ _ => rfl) ?_
      try simp only [Act.put, List.setIfInBounds_toArray, List.set_cons_zero, List.set_cons_succ]
      refine stab_load (o := ⟨some 122, _, _, _, _, _⟩) rfl rfl 27 (.tmp 7) rfl g7 0 rfl 8 aggE (us (ofF b1)) _ (AG (us (ofF b1))) (fun W hS => hS.get 4 rfl) (by first | omega | (simp; done) | (simp; omega)) (cut_all _ 8 (by first | omega | (simp; done) | (simp; omega))) ?_
      try simp only [Act.put, List.setIfInBounds_toArray, List.set_cons_zero, List.set_cons_succ]
      refine stab_load (o := ⟨some 123, _, _, _, _, _⟩) rfl rfl 27 (.tmp 7) rfl g7 0 rfl 8 aggE (us (ofF b1)) _ (AG (us (ofF b1))) (fun W hS => hS.get 4 rfl) (by first | omega | (simp; done) | (simp; omega)) (cut_all _ 8 (by first | omega | (simp; done) | (simp; omega))) ?_
      try simp only [Act.put, List.setIfInBounds_toArray, List.set_cons_zero, List.set_cons_succ]
      refine stab_call (o := ⟨some 124, _, _, _, _, _⟩) rfl rfl 18 [(.tmp 123)] _ rfl [(AG (us (ofF b1)))] rfl (AG (us (negF (ofF b1)))) (fun W => enters _ _ W _ Try.func18 rfl (by kernel_rfl)) (fun W hS => (neg_e e1 _).mono (by rintro e w' ⟨rfl, hb⟩; exact ⟨rfl, hS.call hb⟩)) ?_
      try simp only [Act.put, List.setIfInBounds_toArray, List.set_cons_zero, List.set_cons_succ]
      refine stab_call (o := ⟨some 125, _, _, _, _, _⟩) rfl rfl 14 [(.tmp 122), (.tmp 124)] _ rfl [(AG (us (ofF b1))), (AG (us (negF (ofF b1))))] rfl (AG (us (addF (ofF b1) (negF (ofF b1))))) (fun W => enters _ _ W _ Try.func14 rfl (by kernel_rfl)) (fun W hS => (add_e e1 (neg_E e1) _).mono (by rintro e w' ⟨rfl, hb⟩; exact ⟨rfl, hS.call hb⟩)) ?_
      try simp only [Act.put, List.setIfInBounds_toArray, List.set_cons_zero, List.set_cons_succ]
      refine stab_call (o := ⟨some 126, _, _, _, _, _⟩) rfl rfl 24 [(.tmp 125)] _ rfl [(AG (us (addF (ofF b1) (negF (ofF b1)))))] rfl (.bool true) (fun W => enters _ _ W _ Try.func24 rfl (by kernel_rfl)) (fun W hS => (zero_e (add_E e1 (neg_E e1)) true (decide_eq_true (by grind)) _).mono (by rintro e w' ⟨rfl, hb⟩; exact ⟨rfl, hS.call hb⟩)) ?_
      try simp only [Act.put, List.setIfInBounds_toArray, List.set_cons_zero, List.set_cons_succ]
      refine stab_quiet (o := ⟨some 127, _, _, _, _, _⟩) (v := (.bool true)) rfl rfl (fun _ _ => by go_simp) ?_
      try simp only [Act.put, List.setIfInBounds_toArray, List.set_cons_zero, List.set_cons_succ]
      refine stab_quiet (o := ⟨some 128, _, _, _, _, _⟩) (v := (.bool true)) rfl rfl (fun _ _ => rfl) ?_
      try simp only [Act.put, List.setIfInBounds_toArray, List.set_cons_zero, List.set_cons_succ]
      refine stab_call (o := ⟨some 129, _, _, _, _, _⟩) rfl rfl 20 [] _ rfl [] rfl (.bool true) (fun W => enters _ _ W _ Try.func20 rfl (by kernel_rfl)) (fun W hS => (awake_any _).mono (by rintro e w' ⟨rfl, hb⟩; exact ⟨rfl, hS.call hb⟩)) ?_
      try simp only [Act.put, List.setIfInBounds_toArray, List.set_cons_zero, List.set_cons_succ]
      refine stab_quiet (o := ⟨some 130, _, _, _, _, _⟩) (v := (.bool true)) rfl rfl (fun _ _ => by go_simp) ?_
      try simp only [Act.put, List.setIfInBounds_toArray, List.set_cons_zero, List.set_cons_succ]
      refine stab_quiet (o := ⟨some 6, _, _, _, _, _⟩) (v := (.bool true)) rfl rfl (fun _ _ => rfl) ?_
      try simp only [Act.put, List.setIfInBounds_toArray, List.set_cons_zero, List.set_cons_succ]
      refine stab_nil ?_
      intro w_r12 st
      go_wp2_with fail
      go_ret
      exact ⟨rfl, st.below⟩
end Go.Proofs.Ytdpongijmmdnoaa
