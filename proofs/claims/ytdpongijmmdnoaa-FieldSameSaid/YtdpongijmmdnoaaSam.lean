/- FieldSame's walk: WRITTEN BY gen_same.py -/
import Derived.Test.YtdpongijmmdnoaaDec
import Derived.Test.YtdpongijmmdnoaaPby
namespace Go.Proofs.Ytdpongijmmdnoaa
open Go.RowKit FdP FdP.Ch

set_option maxRecDepth 100000 in
set_option maxHeartbeats 4000000 in
theorem same_any (b1 : List Int) (l1 : b1.length = 56) (y1 : By b1) (b2 : List Int) (l2 : b2.length = 56) (y2 : By b2) (w : World) :
    Calls Try.prog 6 #[AG (ys b1), AG (ys b2)] w fun e w' => e = .returned (.bool true) ∧ Below w.heap.size w w' := by
  have e1 := of_E b1 l1 y1
  generalize z (bval b1) = a1 at e1
  have e2 := of_E b2 l2 y2
  generalize z (bval b2) = a2 at e2
  by_cases hab : a1 = a2
  · skip
    go_enter Try.func6, Try.ntmps6
    have st := St.start w
    go_wp2_with (first
      | ((with_reducible show wpList _ _ _ (⟨some 2, _, _, _, _, _⟩ :: _) _ _); refine wpList_box_st (o := ⟨some 2, _, _, _, _, _⟩) rfl 23 (.tmp 0) rfl (ys b1) rfl st ?_; clear st; intro g2 w2 st)
      | ((with_reducible show wpList _ _ _ (⟨some 3, _, _, _, _, _⟩ :: _) _ _); refine wpList_box_st (o := ⟨some 3, _, _, _, _, _⟩) rfl 23 (.tmp 1) rfl (ys b2) rfl st ?_; clear st; intro g3 w3 st)
      | ((with_reducible show wpList _ _ _ (⟨some 17, _, _, _, _, _⟩ :: _) _ _); refine wpList_load_st (o := ⟨some 17, _, _, _, _, _⟩) rfl 23 (.tmp 2) rfl g2 0 rfl 56 aggR st 1 _ _ (AG (ys b1)) rfl (by first | omega | (simp; done) | (simp; omega)) (cut_all _ 56 (by first | omega | (simp; done) | (simp; omega))) ?_))
    refine (made_any b1 l1 _).mono ?_
    rintro e w18 ⟨rfl, hb⟩
    replace st := st.call hb; clear hb
    go_wp2_with (first
      | ((with_reducible show wpList _ _ _ (⟨some 5, _, _, _, _, _⟩ :: _) _ _); refine wpList_alloc_st (o := ⟨some 5, _, _, _, _, _⟩) rfl 27 rfl (us zE) zisE st ?_; clear st; intro g5 w5 st)
      | ((with_reducible show wpList _ _ _ (⟨none, .store 27 (.tmp 5) (.tmp 19), _, _, _, _⟩ :: _) _ _); refine wpList_store_st (o := ⟨none, _, _, _, _, _⟩) rfl 27 (.tmp 5) (.tmp 19) rfl g5 0 rfl (us (ofF b1)) rfl 8 aggE.size (by first | omega | (simp; done) | (simp; omega)) st 0 _ _ rfl (by first | omega | (simp; done) | (simp; omega)) (us_one _) (us (ofF b1)) (put_all _ _ 8 (by first | omega | (simp; done) | (simp; omega)) (by first | omega | (simp; done) | (simp; omega))) ?_; clear st; intro w_0 st)
      | ((with_reducible show wpList _ _ _ (⟨some 22, _, _, _, _, _⟩ :: _) _ _); refine wpList_load_st (o := ⟨some 22, _, _, _, _, _⟩) rfl 23 (.tmp 3) rfl g3 0 rfl 56 aggR st 1 _ _ (AG (ys b2)) rfl (by first | omega | (simp; done) | (simp; omega)) (cut_all _ 56 (by first | omega | (simp; done) | (simp; omega))) ?_))
    refine (made_any b2 l2 _).mono ?_
    rintro e w23 ⟨rfl, hb⟩
    replace st := st.call hb; clear hb
    go_wp2_with (first
      | ((with_reducible show wpList _ _ _ (⟨some 7, _, _, _, _, _⟩ :: _) _ _); refine wpList_alloc_st (o := ⟨some 7, _, _, _, _, _⟩) rfl 27 rfl (us zE) zisE st ?_; clear st; intro g7 w7 st)
      | ((with_reducible show wpList _ _ _ (⟨none, .store 27 (.tmp 7) (.tmp 24), _, _, _, _⟩ :: _) _ _); refine wpList_store_st (o := ⟨none, _, _, _, _, _⟩) rfl 27 (.tmp 7) (.tmp 24) rfl g7 0 rfl (us (ofF b2)) rfl 8 aggE.size (by first | omega | (simp; done) | (simp; omega)) st 0 _ _ rfl (by first | omega | (simp; done) | (simp; omega)) (us_one _) (us (ofF b2)) (put_all _ _ 8 (by first | omega | (simp; done) | (simp; omega)) (by first | omega | (simp; done) | (simp; omega))) ?_; clear st; intro w_1 st)
      | ((with_reducible show wpList _ _ _ (⟨some 32, _, _, _, _, _⟩ :: _) _ _); refine wpList_load_st (o := ⟨some 32, _, _, _, _, _⟩) rfl 27 (.tmp 5) rfl g5 0 rfl 8 aggE st 1 _ _ (AG (us (ofF b1))) rfl (by first | omega | (simp; done) | (simp; omega)) (cut_all _ 8 (by first | omega | (simp; done) | (simp; omega))) ?_))
    refine (bytes_any (ofF b1) e1.len e1.bd _).mono ?_
    rintro e w33 ⟨v33, rfl, ⟨g33, c33, sp33, rfl, hg, ho⟩, hb⟩
    replace st := st.add hb hg ho; clear hb hg ho
    rw [bytesF_len]
    go_wp2_with fail
    refine (decode_ok g33 c33 e1 _ ((st.get 0 rfl).rd)).mono ?_
    rintro e w36 ⟨rfl, hb⟩
    replace st := st.call hb; clear hb
    go_wp2_with (first
      | ((with_reducible show wpList _ _ _ (⟨some 10, _, _, _, _, _⟩ :: _) _ _); refine wpList_alloc_st (o := ⟨some 10, _, _, _, _, _⟩) rfl 27 rfl (us zE) zisE st ?_; clear st; intro g10 w10 st)
      | ((with_reducible show wpList _ _ _ (⟨none, .store 27 (.tmp 10) (.tmp 37), _, _, _, _⟩ :: _) _ _); refine wpList_store_st (o := ⟨none, _, _, _, _, _⟩) rfl 27 (.tmp 10) (.tmp 37) rfl g10 0 rfl (us (ofF (bytesF (ofF b1)))) rfl 8 aggE.size (by first | omega | (simp; done) | (simp; omega)) st 0 _ _ rfl (by first | omega | (simp; done) | (simp; omega)) (us_one _) (us (ofF (bytesF (ofF b1)))) (put_all _ _ 8 (by first | omega | (simp; done) | (simp; omega)) (by first | omega | (simp; done) | (simp; omega))) ?_; clear st; intro w_2 st))
    refine (p_any _).mono ?_
    rintro e w40 ⟨v40, rfl, ⟨g40, c40, sp40, rfl, hg, ho⟩, hb⟩
    replace st := st.add hb hg ho; clear hb hg ho
    rw [rawF_len]
    go_wp2_with fail
    refine (of_any g40 0 c40 (rawF primeL) (rawF_len _) _ ((st.get 0 rfl).rd)).mono ?_
    rintro e w41 ⟨rfl, hb⟩
    replace st := st.call hb; clear hb
    go_wp2_with (first
      | ((with_reducible show wpList _ _ _ (⟨some 12, _, _, _, _, _⟩ :: _) _ _); refine wpList_alloc_st (o := ⟨some 12, _, _, _, _, _⟩) rfl 27 rfl (us zE) zisE st ?_; clear st; intro g12 w12 st)
      | ((with_reducible show wpList _ _ _ (⟨none, .store 27 (.tmp 12) (.tmp 42), _, _, _, _⟩ :: _) _ _); refine wpList_store_st (o := ⟨none, _, _, _, _, _⟩) rfl 27 (.tmp 12) (.tmp 42) rfl g12 0 rfl (us (ofF (rawF primeL))) rfl 8 aggE.size (by first | omega | (simp; done) | (simp; omega)) st 0 _ _ rfl (by first | omega | (simp; done) | (simp; omega)) (us_one _) (us (ofF (rawF primeL))) (put_all _ _ 8 (by first | omega | (simp; done) | (simp; omega)) (by first | omega | (simp; done) | (simp; omega))) ?_; clear st; intro w_3 st))
    refine (p_any _).mono ?_
    rintro e w45 ⟨v45, rfl, ⟨g45, c45, sp45, rfl, hg, ho⟩, hb⟩
    replace st := st.add hb hg ho; clear hb hg ho
    rw [rawF_len]
    go_wp2_with fail
    refine (decode_p g45 c45 _ ((st.get 0 rfl).rd)).mono ?_
    rintro e w46 ⟨rfl, hb⟩
    replace st := st.call hb; clear hb
    go_wp2_with (first
      | ((with_reducible show wpList _ _ _ (⟨some 14, _, _, _, _, _⟩ :: _) _ _); refine wpList_alloc_st (o := ⟨some 14, _, _, _, _, _⟩) rfl 27 rfl (us zE) zisE st ?_; clear st; intro g14 w14 st)
      | ((with_reducible show wpList _ _ _ (⟨none, .store 27 (.tmp 14) (.tmp 47), _, _, _, _⟩ :: _) _ _); refine wpList_store_st (o := ⟨none, _, _, _, _, _⟩) rfl 27 (.tmp 14) (.tmp 47) rfl g14 0 rfl (us zE) rfl 8 aggE.size (by first | omega | (simp; done) | (simp; omega)) st 0 _ _ rfl (by first | omega | (simp; done) | (simp; omega)) (us_one _) (us zE) (put_all _ _ 8 (by first | omega | (simp; done) | (simp; omega)) (by first | omega | (simp; done) | (simp; omega))) ?_; clear st; intro w_4 st))
    refine wp_region_ordx [(0, 0), (1, 0), (3, 0), (4, 0), (2, 1), (5, 1), (6, 1), (7, 0), (8, 0), (9, 0), (10, 0), (11, 0), (12, 0), (13, 0), (14, 0), (15, 1), (16, 0), (17, 0), (18, 0), (19, 0), (20, 0), (21, 0), (22, 0), (23, 1), (24, 0), (25, 0), (26, 0), (27, 0), (29, 0), (28, 1), (30, 1), (31, 0), (32, 0), (33, 0), (34, 0), (35, 0), (36, 0), (37, 1), (38, 0), (39, 0)] (fun W => St w W [(g14, us zE, 27), (g45, ys (rawF primeL) ++ sp45, 5), (g12, us (ofF (rawF primeL)), 27), (g40, ys (rawF primeL) ++ sp40, 5), (g10, us (ofF (bytesF (ofF b1))), 27), (g33, ys (bytesF (ofF b1)) ++ sp33, 5), (g7, us (ofF b2), 27), (g5, us (ofF b1), 27), (g3, ys b2, 23), (g2, ys b1, 23)]) (by kernel_rfl) (by kernel_rfl) (by kernel_rfl) (fun _ _ d _ _ h => by cases d <;> exact h) st.drew ?_
    replace st := st.drew
    refine ordx_load (o := ⟨some 49, _, _, _, _, _⟩) rfl rfl 27 (.tmp 5) rfl g5 0 rfl 8 aggE (us (ofF b1)) _ (AG (us (ofF b1))) (fun W hS => hS.get 7 rfl) (by first | omega | (simp; done) | (simp; omega)) (cut_all _ 8 (by first | omega | (simp; done) | (simp; omega))) ?_
    try simp only [Act.put, List.setIfInBounds_toArray, List.set_cons_zero, List.set_cons_succ]
    refine ordx_load (o := ⟨some 50, _, _, _, _, _⟩) rfl rfl 27 (.tmp 7) rfl g7 0 rfl 8 aggE (us (ofF b2)) _ (AG (us (ofF b2))) (fun W hS => hS.get 6 rfl) (by first | omega | (simp; done) | (simp; omega)) (cut_all _ 8 (by first | omega | (simp; done) | (simp; omega))) ?_
    try simp only [Act.put, List.setIfInBounds_toArray, List.set_cons_zero, List.set_cons_succ]
    refine ordx_quiet (o := ⟨some 52, _, _, _, _, _⟩) (v := (.slice (some ⟨g33, 0, none⟩) 56 c33)) rfl rfl (fun _ _ => rfl) ?_
    try simp only [Act.put, List.setIfInBounds_toArray, List.set_cons_zero, List.set_cons_succ]
    refine ordx_load (o := ⟨some 53, _, _, _, _, _⟩) rfl rfl 27 (.tmp 7) rfl g7 0 rfl 8 aggE (us (ofF b2)) _ (AG (us (ofF b2))) (fun W hS => hS.get 6 rfl) (by first | omega | (simp; done) | (simp; omega)) (cut_all _ 8 (by first | omega | (simp; done) | (simp; omega))) ?_
    try simp only [Act.put, List.setIfInBounds_toArray, List.set_cons_zero, List.set_cons_succ]
    refine ordx_run (o := ⟨some 51, _, _, _, _, _⟩) rfl rfl (fun K hK => ?_)
    go_wp2_with fail
    refine (equal_e e1 e2 true (decide_eq_true hab) _).mono ?_
    rintro e w51 ⟨rfl, hb⟩
    replace st := st.call hb; clear hb
    refine hK.out _ _ st ?_
    try simp only [Act.put, List.setIfInBounds_toArray, List.set_cons_zero, List.set_cons_succ]
    clear hK K
    refine ordx_run (o := ⟨some 54, _, _, _, _, _⟩) rfl rfl (fun K hK => ?_)
    go_wp2_with fail
    refine (bytes_any (ofF b2) e2.len e2.bd _).mono ?_
    rintro e w54 ⟨v54, rfl, ⟨g54, c54, sp54, rfl, hg, ho⟩, hb⟩
    replace st := st.add hb hg ho; clear hb hg ho
    rw [bytesF_len]
    refine hK.out _ _ st.tail ?_
    try simp only [Act.put, List.setIfInBounds_toArray, List.set_cons_zero, List.set_cons_succ]
    clear hK K
    refine ordx_run (o := ⟨some 55, _, _, _, _, _⟩) rfl rfl (fun K hK => ?_)
    go_wp2_with fail
    refine (lawEq_is e1 e2 true _ _ _ (⟨_, c33, by rw [bytesF_len], fun _ => ⟨g33, 0, rfl, (st.get 6 rfl).rd⟩⟩) (⟨_, c54, by rw [bytesF_len], fun _ => ⟨g54, 0, rfl, (st.get 0 rfl).rd⟩⟩) (decide_eq_true hab)).mono ?_
    rintro e w55 ⟨rfl, hb⟩
    replace st := st.call hb; clear hb
    refine hK.out _ _ st.tail ?_
    try simp only [Act.put, List.setIfInBounds_toArray, List.set_cons_zero, List.set_cons_succ]
    clear hK K
    refine ordx_quiet (o := ⟨some 56, _, _, _, _, _⟩) (v := (.bool true)) rfl rfl (fun _ _ => by go_simp) ?_
    try simp only [Act.put, List.setIfInBounds_toArray, List.set_cons_zero, List.set_cons_succ]
    refine ordx_quiet (o := ⟨some 57, _, _, _, _, _⟩) (v := (.bool true)) rfl rfl (fun _ _ => rfl) ?_
    try simp only [Act.put, List.setIfInBounds_toArray, List.set_cons_zero, List.set_cons_succ]
    refine ordx_quiet (o := ⟨some 58, _, _, _, _, _⟩) (v := (.int .i64 0)) rfl rfl (fun _ _ => rfl) ?_
    try simp only [Act.put, List.setIfInBounds_toArray, List.set_cons_zero, List.set_cons_succ]
    refine ordx_quiet (o := ⟨some 59, _, _, _, _, _⟩) (v := (.bool true)) rfl rfl (fun _ _ => by go_simp) ?_
    try simp only [Act.put, List.setIfInBounds_toArray, List.set_cons_zero, List.set_cons_succ]
    refine ordx_quiet (o := ⟨some 60, _, _, _, _, _⟩) (v := (.bool true)) rfl rfl (fun _ _ => by go_simp) ?_
    try simp only [Act.put, List.setIfInBounds_toArray, List.set_cons_zero, List.set_cons_succ]
    refine ordx_quiet (o := ⟨some 61, _, _, _, _, _⟩) (v := (.bool true)) rfl rfl (fun _ _ => rfl) ?_
    try simp only [Act.put, List.setIfInBounds_toArray, List.set_cons_zero, List.set_cons_succ]
    refine ordx_load (o := ⟨some 62, _, _, _, _, _⟩) rfl rfl 27 (.tmp 10) rfl g10 0 rfl 8 aggE (us (ofF (bytesF (ofF b1)))) _ (AG (us (ofF (bytesF (ofF b1))))) (fun W hS => hS.get 4 rfl) (by first | omega | (simp; done) | (simp; omega)) (cut_all _ 8 (by first | omega | (simp; done) | (simp; omega))) ?_
    try simp only [Act.put, List.setIfInBounds_toArray, List.set_cons_zero, List.set_cons_succ]
    refine ordx_load (o := ⟨some 63, _, _, _, _, _⟩) rfl rfl 27 (.tmp 5) rfl g5 0 rfl 8 aggE (us (ofF b1)) _ (AG (us (ofF b1))) (fun W hS => hS.get 7 rfl) (by first | omega | (simp; done) | (simp; omega)) (cut_all _ 8 (by first | omega | (simp; done) | (simp; omega))) ?_
    try simp only [Act.put, List.setIfInBounds_toArray, List.set_cons_zero, List.set_cons_succ]
    refine ordx_run (o := ⟨some 64, _, _, _, _, _⟩) rfl rfl (fun K hK => ?_)
    go_wp2_with fail
    refine (equal_e (of_bytes e1) e1 true (decide_eq_true rfl) _).mono ?_
    rintro e w64 ⟨rfl, hb⟩
    replace st := st.call hb; clear hb
    refine hK.out _ _ st.tail ?_
    try simp only [Act.put, List.setIfInBounds_toArray, List.set_cons_zero, List.set_cons_succ]
    clear hK K
    refine ordx_quiet (o := ⟨some 65, _, _, _, _, _⟩) (v := (.bool true)) rfl rfl (fun _ _ => by go_simp) ?_
    try simp only [Act.put, List.setIfInBounds_toArray, List.set_cons_zero, List.set_cons_succ]
    refine ordx_quiet (o := ⟨some 66, _, _, _, _, _⟩) (v := (.bool true)) rfl rfl (fun _ _ => rfl) ?_
    try simp only [Act.put, List.setIfInBounds_toArray, List.set_cons_zero, List.set_cons_succ]
    refine ordx_quiet (o := ⟨some 67, _, _, _, _, _⟩) (v := (.int .i64 0)) rfl rfl (fun _ _ => rfl) ?_
    try simp only [Act.put, List.setIfInBounds_toArray, List.set_cons_zero, List.set_cons_succ]
    refine ordx_quiet (o := ⟨some 68, _, _, _, _, _⟩) (v := (.bool true)) rfl rfl (fun _ _ => by go_simp) ?_
    try simp only [Act.put, List.setIfInBounds_toArray, List.set_cons_zero, List.set_cons_succ]
    refine ordx_quiet (o := ⟨some 69, _, _, _, _, _⟩) (v := (.bool true)) rfl rfl (fun _ _ => by go_simp) ?_
    try simp only [Act.put, List.setIfInBounds_toArray, List.set_cons_zero, List.set_cons_succ]
    refine ordx_quiet (o := ⟨some 70, _, _, _, _, _⟩) (v := (.bool true)) rfl rfl (fun _ _ => rfl) ?_
    try simp only [Act.put, List.setIfInBounds_toArray, List.set_cons_zero, List.set_cons_succ]
    refine ordx_load (o := ⟨some 71, _, _, _, _, _⟩) rfl rfl 27 (.tmp 12) rfl g12 0 rfl 8 aggE (us (ofF (rawF primeL))) _ (AG (us (ofF (rawF primeL)))) (fun W hS => hS.get 2 rfl) (by first | omega | (simp; done) | (simp; omega)) (cut_all _ 8 (by first | omega | (simp; done) | (simp; omega))) ?_
    try simp only [Act.put, List.setIfInBounds_toArray, List.set_cons_zero, List.set_cons_succ]
    refine ordx_run (o := ⟨some 72, _, _, _, _, _⟩) rfl rfl (fun K hK => ?_)
    go_wp2_with fail
    refine (zero_e of_prime true (decide_eq_true rfl) _).mono ?_
    rintro e w72 ⟨rfl, hb⟩
    replace st := st.call hb; clear hb
    refine hK.out _ _ st.tail ?_
    try simp only [Act.put, List.setIfInBounds_toArray, List.set_cons_zero, List.set_cons_succ]
    clear hK K
    refine ordx_quiet (o := ⟨some 73, _, _, _, _, _⟩) (v := (.bool true)) rfl rfl (fun _ _ => by go_simp) ?_
    try simp only [Act.put, List.setIfInBounds_toArray, List.set_cons_zero, List.set_cons_succ]
    refine ordx_quiet (o := ⟨some 74, _, _, _, _, _⟩) (v := (.bool true)) rfl rfl (fun _ _ => rfl) ?_
    try simp only [Act.put, List.setIfInBounds_toArray, List.set_cons_zero, List.set_cons_succ]
    refine ordx_load (o := ⟨some 75, _, _, _, _, _⟩) rfl rfl 27 (.tmp 5) rfl g5 0 rfl 8 aggE (us (ofF b1)) _ (AG (us (ofF b1))) (fun W hS => hS.get 7 rfl) (by first | omega | (simp; done) | (simp; omega)) (cut_all _ 8 (by first | omega | (simp; done) | (simp; omega))) ?_
    try simp only [Act.put, List.setIfInBounds_toArray, List.set_cons_zero, List.set_cons_succ]
    refine ordx_load (o := ⟨some 76, _, _, _, _, _⟩) rfl rfl 27 (.tmp 12) rfl g12 0 rfl 8 aggE (us (ofF (rawF primeL))) _ (AG (us (ofF (rawF primeL)))) (fun W hS => hS.get 2 rfl) (by first | omega | (simp; done) | (simp; omega)) (cut_all _ 8 (by first | omega | (simp; done) | (simp; omega))) ?_
    try simp only [Act.put, List.setIfInBounds_toArray, List.set_cons_zero, List.set_cons_succ]
    refine ordx_load (o := ⟨some 78, _, _, _, _, _⟩) rfl rfl 27 (.tmp 5) rfl g5 0 rfl 8 aggE (us (ofF b1)) _ (AG (us (ofF b1))) (fun W hS => hS.get 7 rfl) (by first | omega | (simp; done) | (simp; omega)) (cut_all _ 8 (by first | omega | (simp; done) | (simp; omega))) ?_
    try simp only [Act.put, List.setIfInBounds_toArray, List.set_cons_zero, List.set_cons_succ]
    refine ordx_run (o := ⟨some 77, _, _, _, _, _⟩) rfl rfl (fun K hK => ?_)
    go_wp2_with fail
    refine (add_e e1 of_prime _).mono ?_
    rintro e w77 ⟨rfl, hb⟩
    replace st := st.call hb; clear hb
    refine hK.out _ _ st.tail ?_
    try simp only [Act.put, List.setIfInBounds_toArray, List.set_cons_zero, List.set_cons_succ]
    clear hK K
    refine ordx_run (o := ⟨some 79, _, _, _, _, _⟩) rfl rfl (fun K hK => ?_)
    go_wp2_with fail
    refine (equal_e (add_E e1 of_prime) e1 true (decide_eq_true (by grind)) _).mono ?_
    rintro e w79 ⟨rfl, hb⟩
    replace st := st.call hb; clear hb
    refine hK.out _ _ st.tail ?_
    try simp only [Act.put, List.setIfInBounds_toArray, List.set_cons_zero, List.set_cons_succ]
    clear hK K
    refine ordx_quiet (o := ⟨some 80, _, _, _, _, _⟩) (v := (.bool true)) rfl rfl (fun _ _ => by go_simp) ?_
    try simp only [Act.put, List.setIfInBounds_toArray, List.set_cons_zero, List.set_cons_succ]
    refine ordx_quiet (o := ⟨some 81, _, _, _, _, _⟩) (v := (.bool true)) rfl rfl (fun _ _ => rfl) ?_
    try simp only [Act.put, List.setIfInBounds_toArray, List.set_cons_zero, List.set_cons_succ]
    refine ordx_quiet (o := ⟨some 82, _, _, _, _, _⟩) (v := (.int .i64 12)) rfl rfl (fun _ _ => rfl) ?_
    try simp only [Act.put, List.setIfInBounds_toArray, List.set_cons_zero, List.set_cons_succ]
    refine ordx_quiet (o := ⟨some 83, _, _, _, _, _⟩) (v := (.bool true)) rfl rfl (fun _ _ => by go_simp) ?_
    try simp only [Act.put, List.setIfInBounds_toArray, List.set_cons_zero, List.set_cons_succ]
    refine ordx_quiet (o := ⟨some 84, _, _, _, _, _⟩) (v := (.bool true)) rfl rfl (fun _ _ => by go_simp) ?_
    try simp only [Act.put, List.setIfInBounds_toArray, List.set_cons_zero, List.set_cons_succ]
    refine ordx_quiet (o := ⟨some 85, _, _, _, _, _⟩) (v := (.bool true)) rfl rfl (fun _ _ => rfl) ?_
    try simp only [Act.put, List.setIfInBounds_toArray, List.set_cons_zero, List.set_cons_succ]
    refine ordx_run (o := ⟨some 86, _, _, _, _, _⟩) rfl rfl (fun K hK => ?_)
    go_wp2_with fail
    refine (awake_any _).mono ?_
    rintro e w86 ⟨rfl, hb⟩
    replace st := st.call hb; clear hb
    refine hK.out _ _ st.tail ?_
    try simp only [Act.put, List.setIfInBounds_toArray, List.set_cons_zero, List.set_cons_succ]
    clear hK K
    refine ordx_quiet (o := ⟨some 87, _, _, _, _, _⟩) (v := (.bool true)) rfl rfl (fun _ _ => by go_simp) ?_
    try simp only [Act.put, List.setIfInBounds_toArray, List.set_cons_zero, List.set_cons_succ]
    refine ordx_quiet (o := ⟨some 4, _, _, _, _, _⟩) (v := (.bool true)) rfl rfl (fun _ _ => rfl) ?_
    try simp only [Act.put, List.setIfInBounds_toArray, List.set_cons_zero, List.set_cons_succ]
    refine ordx_nil ?_
    go_wp2_with fail
    go_ret
    exact ⟨rfl, st.below⟩
  · skip
    go_enter Try.func6, Try.ntmps6
    have st := St.start w
    go_wp2_with (first
      | ((with_reducible show wpList _ _ _ (⟨some 2, _, _, _, _, _⟩ :: _) _ _); refine wpList_box_st (o := ⟨some 2, _, _, _, _, _⟩) rfl 23 (.tmp 0) rfl (ys b1) rfl st ?_; clear st; intro g2 w2 st)
      | ((with_reducible show wpList _ _ _ (⟨some 3, _, _, _, _, _⟩ :: _) _ _); refine wpList_box_st (o := ⟨some 3, _, _, _, _, _⟩) rfl 23 (.tmp 1) rfl (ys b2) rfl st ?_; clear st; intro g3 w3 st)
      | ((with_reducible show wpList _ _ _ (⟨some 17, _, _, _, _, _⟩ :: _) _ _); refine wpList_load_st (o := ⟨some 17, _, _, _, _, _⟩) rfl 23 (.tmp 2) rfl g2 0 rfl 56 aggR st 1 _ _ (AG (ys b1)) rfl (by first | omega | (simp; done) | (simp; omega)) (cut_all _ 56 (by first | omega | (simp; done) | (simp; omega))) ?_))
    refine (made_any b1 l1 _).mono ?_
    rintro e w18 ⟨rfl, hb⟩
    replace st := st.call hb; clear hb
    go_wp2_with (first
      | ((with_reducible show wpList _ _ _ (⟨some 5, _, _, _, _, _⟩ :: _) _ _); refine wpList_alloc_st (o := ⟨some 5, _, _, _, _, _⟩) rfl 27 rfl (us zE) zisE st ?_; clear st; intro g5 w5 st)
      | ((with_reducible show wpList _ _ _ (⟨none, .store 27 (.tmp 5) (.tmp 19), _, _, _, _⟩ :: _) _ _); refine wpList_store_st (o := ⟨none, _, _, _, _, _⟩) rfl 27 (.tmp 5) (.tmp 19) rfl g5 0 rfl (us (ofF b1)) rfl 8 aggE.size (by first | omega | (simp; done) | (simp; omega)) st 0 _ _ rfl (by first | omega | (simp; done) | (simp; omega)) (us_one _) (us (ofF b1)) (put_all _ _ 8 (by first | omega | (simp; done) | (simp; omega)) (by first | omega | (simp; done) | (simp; omega))) ?_; clear st; intro w_0 st)
      | ((with_reducible show wpList _ _ _ (⟨some 22, _, _, _, _, _⟩ :: _) _ _); refine wpList_load_st (o := ⟨some 22, _, _, _, _, _⟩) rfl 23 (.tmp 3) rfl g3 0 rfl 56 aggR st 1 _ _ (AG (ys b2)) rfl (by first | omega | (simp; done) | (simp; omega)) (cut_all _ 56 (by first | omega | (simp; done) | (simp; omega))) ?_))
    refine (made_any b2 l2 _).mono ?_
    rintro e w23 ⟨rfl, hb⟩
    replace st := st.call hb; clear hb
    go_wp2_with (first
      | ((with_reducible show wpList _ _ _ (⟨some 7, _, _, _, _, _⟩ :: _) _ _); refine wpList_alloc_st (o := ⟨some 7, _, _, _, _, _⟩) rfl 27 rfl (us zE) zisE st ?_; clear st; intro g7 w7 st)
      | ((with_reducible show wpList _ _ _ (⟨none, .store 27 (.tmp 7) (.tmp 24), _, _, _, _⟩ :: _) _ _); refine wpList_store_st (o := ⟨none, _, _, _, _, _⟩) rfl 27 (.tmp 7) (.tmp 24) rfl g7 0 rfl (us (ofF b2)) rfl 8 aggE.size (by first | omega | (simp; done) | (simp; omega)) st 0 _ _ rfl (by first | omega | (simp; done) | (simp; omega)) (us_one _) (us (ofF b2)) (put_all _ _ 8 (by first | omega | (simp; done) | (simp; omega)) (by first | omega | (simp; done) | (simp; omega))) ?_; clear st; intro w_1 st)
      | ((with_reducible show wpList _ _ _ (⟨some 32, _, _, _, _, _⟩ :: _) _ _); refine wpList_load_st (o := ⟨some 32, _, _, _, _, _⟩) rfl 27 (.tmp 5) rfl g5 0 rfl 8 aggE st 1 _ _ (AG (us (ofF b1))) rfl (by first | omega | (simp; done) | (simp; omega)) (cut_all _ 8 (by first | omega | (simp; done) | (simp; omega))) ?_))
    refine (bytes_any (ofF b1) e1.len e1.bd _).mono ?_
    rintro e w33 ⟨v33, rfl, ⟨g33, c33, sp33, rfl, hg, ho⟩, hb⟩
    replace st := st.add hb hg ho; clear hb hg ho
    rw [bytesF_len]
    go_wp2_with fail
    refine (decode_ok g33 c33 e1 _ ((st.get 0 rfl).rd)).mono ?_
    rintro e w36 ⟨rfl, hb⟩
    replace st := st.call hb; clear hb
    go_wp2_with (first
      | ((with_reducible show wpList _ _ _ (⟨some 10, _, _, _, _, _⟩ :: _) _ _); refine wpList_alloc_st (o := ⟨some 10, _, _, _, _, _⟩) rfl 27 rfl (us zE) zisE st ?_; clear st; intro g10 w10 st)
      | ((with_reducible show wpList _ _ _ (⟨none, .store 27 (.tmp 10) (.tmp 37), _, _, _, _⟩ :: _) _ _); refine wpList_store_st (o := ⟨none, _, _, _, _, _⟩) rfl 27 (.tmp 10) (.tmp 37) rfl g10 0 rfl (us (ofF (bytesF (ofF b1)))) rfl 8 aggE.size (by first | omega | (simp; done) | (simp; omega)) st 0 _ _ rfl (by first | omega | (simp; done) | (simp; omega)) (us_one _) (us (ofF (bytesF (ofF b1)))) (put_all _ _ 8 (by first | omega | (simp; done) | (simp; omega)) (by first | omega | (simp; done) | (simp; omega))) ?_; clear st; intro w_2 st))
    refine (p_any _).mono ?_
    rintro e w40 ⟨v40, rfl, ⟨g40, c40, sp40, rfl, hg, ho⟩, hb⟩
    replace st := st.add hb hg ho; clear hb hg ho
    rw [rawF_len]
    go_wp2_with fail
    refine (of_any g40 0 c40 (rawF primeL) (rawF_len _) _ ((st.get 0 rfl).rd)).mono ?_
    rintro e w41 ⟨rfl, hb⟩
    replace st := st.call hb; clear hb
    go_wp2_with (first
      | ((with_reducible show wpList _ _ _ (⟨some 12, _, _, _, _, _⟩ :: _) _ _); refine wpList_alloc_st (o := ⟨some 12, _, _, _, _, _⟩) rfl 27 rfl (us zE) zisE st ?_; clear st; intro g12 w12 st)
      | ((with_reducible show wpList _ _ _ (⟨none, .store 27 (.tmp 12) (.tmp 42), _, _, _, _⟩ :: _) _ _); refine wpList_store_st (o := ⟨none, _, _, _, _, _⟩) rfl 27 (.tmp 12) (.tmp 42) rfl g12 0 rfl (us (ofF (rawF primeL))) rfl 8 aggE.size (by first | omega | (simp; done) | (simp; omega)) st 0 _ _ rfl (by first | omega | (simp; done) | (simp; omega)) (us_one _) (us (ofF (rawF primeL))) (put_all _ _ 8 (by first | omega | (simp; done) | (simp; omega)) (by first | omega | (simp; done) | (simp; omega))) ?_; clear st; intro w_3 st))
    refine (p_any _).mono ?_
    rintro e w45 ⟨v45, rfl, ⟨g45, c45, sp45, rfl, hg, ho⟩, hb⟩
    replace st := st.add hb hg ho; clear hb hg ho
    rw [rawF_len]
    go_wp2_with fail
    refine (decode_p g45 c45 _ ((st.get 0 rfl).rd)).mono ?_
    rintro e w46 ⟨rfl, hb⟩
    replace st := st.call hb; clear hb
    go_wp2_with (first
      | ((with_reducible show wpList _ _ _ (⟨some 14, _, _, _, _, _⟩ :: _) _ _); refine wpList_alloc_st (o := ⟨some 14, _, _, _, _, _⟩) rfl 27 rfl (us zE) zisE st ?_; clear st; intro g14 w14 st)
      | ((with_reducible show wpList _ _ _ (⟨none, .store 27 (.tmp 14) (.tmp 47), _, _, _, _⟩ :: _) _ _); refine wpList_store_st (o := ⟨none, _, _, _, _, _⟩) rfl 27 (.tmp 14) (.tmp 47) rfl g14 0 rfl (us zE) rfl 8 aggE.size (by first | omega | (simp; done) | (simp; omega)) st 0 _ _ rfl (by first | omega | (simp; done) | (simp; omega)) (us_one _) (us zE) (put_all _ _ 8 (by first | omega | (simp; done) | (simp; omega)) (by first | omega | (simp; done) | (simp; omega))) ?_; clear st; intro w_4 st))
    refine wp_region_ordx [(0, 0), (1, 0), (3, 0), (4, 0), (2, 1), (5, 1), (6, 1), (7, 0), (8, 0), (9, 0), (10, 0), (11, 0), (12, 0), (13, 0), (14, 0), (15, 1), (16, 0), (17, 0), (18, 0), (19, 0), (20, 0), (21, 0), (22, 0), (23, 1), (24, 0), (25, 0), (26, 0), (27, 0), (29, 0), (28, 1), (30, 1), (31, 0), (32, 0), (33, 0), (34, 0), (35, 0), (36, 0), (37, 1), (38, 0), (39, 0)] (fun W => St w W [(g14, us zE, 27), (g45, ys (rawF primeL) ++ sp45, 5), (g12, us (ofF (rawF primeL)), 27), (g40, ys (rawF primeL) ++ sp40, 5), (g10, us (ofF (bytesF (ofF b1))), 27), (g33, ys (bytesF (ofF b1)) ++ sp33, 5), (g7, us (ofF b2), 27), (g5, us (ofF b1), 27), (g3, ys b2, 23), (g2, ys b1, 23)]) (by kernel_rfl) (by kernel_rfl) (by kernel_rfl) (fun _ _ d _ _ h => by cases d <;> exact h) st.drew ?_
    replace st := st.drew
    refine ordx_load (o := ⟨some 49, _, _, _, _, _⟩) rfl rfl 27 (.tmp 5) rfl g5 0 rfl 8 aggE (us (ofF b1)) _ (AG (us (ofF b1))) (fun W hS => hS.get 7 rfl) (by first | omega | (simp; done) | (simp; omega)) (cut_all _ 8 (by first | omega | (simp; done) | (simp; omega))) ?_
    try simp only [Act.put, List.setIfInBounds_toArray, List.set_cons_zero, List.set_cons_succ]
    refine ordx_load (o := ⟨some 50, _, _, _, _, _⟩) rfl rfl 27 (.tmp 7) rfl g7 0 rfl 8 aggE (us (ofF b2)) _ (AG (us (ofF b2))) (fun W hS => hS.get 6 rfl) (by first | omega | (simp; done) | (simp; omega)) (cut_all _ 8 (by first | omega | (simp; done) | (simp; omega))) ?_
    try simp only [Act.put, List.setIfInBounds_toArray, List.set_cons_zero, List.set_cons_succ]
    refine ordx_quiet (o := ⟨some 52, _, _, _, _, _⟩) (v := (.slice (some ⟨g33, 0, none⟩) 56 c33)) rfl rfl (fun _ _ => rfl) ?_
    try simp only [Act.put, List.setIfInBounds_toArray, List.set_cons_zero, List.set_cons_succ]
    refine ordx_load (o := ⟨some 53, _, _, _, _, _⟩) rfl rfl 27 (.tmp 7) rfl g7 0 rfl 8 aggE (us (ofF b2)) _ (AG (us (ofF b2))) (fun W hS => hS.get 6 rfl) (by first | omega | (simp; done) | (simp; omega)) (cut_all _ 8 (by first | omega | (simp; done) | (simp; omega))) ?_
    try simp only [Act.put, List.setIfInBounds_toArray, List.set_cons_zero, List.set_cons_succ]
    refine ordx_run (o := ⟨some 51, _, _, _, _, _⟩) rfl rfl (fun K hK => ?_)
    go_wp2_with fail
    refine (equal_e e1 e2 false (decide_eq_false hab) _).mono ?_
    rintro e w51 ⟨rfl, hb⟩
    replace st := st.call hb; clear hb
    refine hK.out _ _ st ?_
    try simp only [Act.put, List.setIfInBounds_toArray, List.set_cons_zero, List.set_cons_succ]
    clear hK K
    refine ordx_run (o := ⟨some 54, _, _, _, _, _⟩) rfl rfl (fun K hK => ?_)
    go_wp2_with fail
    refine (bytes_any (ofF b2) e2.len e2.bd _).mono ?_
    rintro e w54 ⟨v54, rfl, ⟨g54, c54, sp54, rfl, hg, ho⟩, hb⟩
    replace st := st.add hb hg ho; clear hb hg ho
    rw [bytesF_len]
    refine hK.out _ _ st.tail ?_
    try simp only [Act.put, List.setIfInBounds_toArray, List.set_cons_zero, List.set_cons_succ]
    clear hK K
    refine ordx_run (o := ⟨some 55, _, _, _, _, _⟩) rfl rfl (fun K hK => ?_)
    go_wp2_with fail
    refine (lawEq_is e1 e2 false _ _ _ (⟨_, c33, by rw [bytesF_len], fun _ => ⟨g33, 0, rfl, (st.get 6 rfl).rd⟩⟩) (⟨_, c54, by rw [bytesF_len], fun _ => ⟨g54, 0, rfl, (st.get 0 rfl).rd⟩⟩) (decide_eq_false hab)).mono ?_
    rintro e w55 ⟨rfl, hb⟩
    replace st := st.call hb; clear hb
    refine hK.out _ _ st.tail ?_
    try simp only [Act.put, List.setIfInBounds_toArray, List.set_cons_zero, List.set_cons_succ]
    clear hK K
    refine ordx_quiet (o := ⟨some 56, _, _, _, _, _⟩) (v := (.bool true)) rfl rfl (fun _ _ => by go_simp) ?_
    try simp only [Act.put, List.setIfInBounds_toArray, List.set_cons_zero, List.set_cons_succ]
    refine ordx_quiet (o := ⟨some 57, _, _, _, _, _⟩) (v := (.bool true)) rfl rfl (fun _ _ => rfl) ?_
    try simp only [Act.put, List.setIfInBounds_toArray, List.set_cons_zero, List.set_cons_succ]
    refine ordx_quiet (o := ⟨some 58, _, _, _, _, _⟩) (v := (.int .i64 0)) rfl rfl (fun _ _ => rfl) ?_
    try simp only [Act.put, List.setIfInBounds_toArray, List.set_cons_zero, List.set_cons_succ]
    refine ordx_quiet (o := ⟨some 59, _, _, _, _, _⟩) (v := (.bool true)) rfl rfl (fun _ _ => by go_simp) ?_
    try simp only [Act.put, List.setIfInBounds_toArray, List.set_cons_zero, List.set_cons_succ]
    refine ordx_quiet (o := ⟨some 60, _, _, _, _, _⟩) (v := (.bool true)) rfl rfl (fun _ _ => by go_simp) ?_
    try simp only [Act.put, List.setIfInBounds_toArray, List.set_cons_zero, List.set_cons_succ]
    refine ordx_quiet (o := ⟨some 61, _, _, _, _, _⟩) (v := (.bool true)) rfl rfl (fun _ _ => rfl) ?_
    try simp only [Act.put, List.setIfInBounds_toArray, List.set_cons_zero, List.set_cons_succ]
    refine ordx_load (o := ⟨some 62, _, _, _, _, _⟩) rfl rfl 27 (.tmp 10) rfl g10 0 rfl 8 aggE (us (ofF (bytesF (ofF b1)))) _ (AG (us (ofF (bytesF (ofF b1))))) (fun W hS => hS.get 4 rfl) (by first | omega | (simp; done) | (simp; omega)) (cut_all _ 8 (by first | omega | (simp; done) | (simp; omega))) ?_
    try simp only [Act.put, List.setIfInBounds_toArray, List.set_cons_zero, List.set_cons_succ]
    refine ordx_load (o := ⟨some 63, _, _, _, _, _⟩) rfl rfl 27 (.tmp 5) rfl g5 0 rfl 8 aggE (us (ofF b1)) _ (AG (us (ofF b1))) (fun W hS => hS.get 7 rfl) (by first | omega | (simp; done) | (simp; omega)) (cut_all _ 8 (by first | omega | (simp; done) | (simp; omega))) ?_
    try simp only [Act.put, List.setIfInBounds_toArray, List.set_cons_zero, List.set_cons_succ]
    refine ordx_run (o := ⟨some 64, _, _, _, _, _⟩) rfl rfl (fun K hK => ?_)
    go_wp2_with fail
    refine (equal_e (of_bytes e1) e1 true (decide_eq_true rfl) _).mono ?_
    rintro e w64 ⟨rfl, hb⟩
    replace st := st.call hb; clear hb
    refine hK.out _ _ st.tail ?_
    try simp only [Act.put, List.setIfInBounds_toArray, List.set_cons_zero, List.set_cons_succ]
    clear hK K
    refine ordx_quiet (o := ⟨some 65, _, _, _, _, _⟩) (v := (.bool true)) rfl rfl (fun _ _ => by go_simp) ?_
    try simp only [Act.put, List.setIfInBounds_toArray, List.set_cons_zero, List.set_cons_succ]
    refine ordx_quiet (o := ⟨some 66, _, _, _, _, _⟩) (v := (.bool true)) rfl rfl (fun _ _ => rfl) ?_
    try simp only [Act.put, List.setIfInBounds_toArray, List.set_cons_zero, List.set_cons_succ]
    refine ordx_quiet (o := ⟨some 67, _, _, _, _, _⟩) (v := (.int .i64 0)) rfl rfl (fun _ _ => rfl) ?_
    try simp only [Act.put, List.setIfInBounds_toArray, List.set_cons_zero, List.set_cons_succ]
    refine ordx_quiet (o := ⟨some 68, _, _, _, _, _⟩) (v := (.bool true)) rfl rfl (fun _ _ => by go_simp) ?_
    try simp only [Act.put, List.setIfInBounds_toArray, List.set_cons_zero, List.set_cons_succ]
    refine ordx_quiet (o := ⟨some 69, _, _, _, _, _⟩) (v := (.bool true)) rfl rfl (fun _ _ => by go_simp) ?_
    try simp only [Act.put, List.setIfInBounds_toArray, List.set_cons_zero, List.set_cons_succ]
    refine ordx_quiet (o := ⟨some 70, _, _, _, _, _⟩) (v := (.bool true)) rfl rfl (fun _ _ => rfl) ?_
    try simp only [Act.put, List.setIfInBounds_toArray, List.set_cons_zero, List.set_cons_succ]
    refine ordx_load (o := ⟨some 71, _, _, _, _, _⟩) rfl rfl 27 (.tmp 12) rfl g12 0 rfl 8 aggE (us (ofF (rawF primeL))) _ (AG (us (ofF (rawF primeL)))) (fun W hS => hS.get 2 rfl) (by first | omega | (simp; done) | (simp; omega)) (cut_all _ 8 (by first | omega | (simp; done) | (simp; omega))) ?_
    try simp only [Act.put, List.setIfInBounds_toArray, List.set_cons_zero, List.set_cons_succ]
    refine ordx_run (o := ⟨some 72, _, _, _, _, _⟩) rfl rfl (fun K hK => ?_)
    go_wp2_with fail
    refine (zero_e of_prime true (decide_eq_true rfl) _).mono ?_
    rintro e w72 ⟨rfl, hb⟩
    replace st := st.call hb; clear hb
    refine hK.out _ _ st.tail ?_
    try simp only [Act.put, List.setIfInBounds_toArray, List.set_cons_zero, List.set_cons_succ]
    clear hK K
    refine ordx_quiet (o := ⟨some 73, _, _, _, _, _⟩) (v := (.bool true)) rfl rfl (fun _ _ => by go_simp) ?_
    try simp only [Act.put, List.setIfInBounds_toArray, List.set_cons_zero, List.set_cons_succ]
    refine ordx_quiet (o := ⟨some 74, _, _, _, _, _⟩) (v := (.bool true)) rfl rfl (fun _ _ => rfl) ?_
    try simp only [Act.put, List.setIfInBounds_toArray, List.set_cons_zero, List.set_cons_succ]
    refine ordx_load (o := ⟨some 75, _, _, _, _, _⟩) rfl rfl 27 (.tmp 5) rfl g5 0 rfl 8 aggE (us (ofF b1)) _ (AG (us (ofF b1))) (fun W hS => hS.get 7 rfl) (by first | omega | (simp; done) | (simp; omega)) (cut_all _ 8 (by first | omega | (simp; done) | (simp; omega))) ?_
    try simp only [Act.put, List.setIfInBounds_toArray, List.set_cons_zero, List.set_cons_succ]
    refine ordx_load (o := ⟨some 76, _, _, _, _, _⟩) rfl rfl 27 (.tmp 12) rfl g12 0 rfl 8 aggE (us (ofF (rawF primeL))) _ (AG (us (ofF (rawF primeL)))) (fun W hS => hS.get 2 rfl) (by first | omega | (simp; done) | (simp; omega)) (cut_all _ 8 (by first | omega | (simp; done) | (simp; omega))) ?_
    try simp only [Act.put, List.setIfInBounds_toArray, List.set_cons_zero, List.set_cons_succ]
    refine ordx_load (o := ⟨some 78, _, _, _, _, _⟩) rfl rfl 27 (.tmp 5) rfl g5 0 rfl 8 aggE (us (ofF b1)) _ (AG (us (ofF b1))) (fun W hS => hS.get 7 rfl) (by first | omega | (simp; done) | (simp; omega)) (cut_all _ 8 (by first | omega | (simp; done) | (simp; omega))) ?_
    try simp only [Act.put, List.setIfInBounds_toArray, List.set_cons_zero, List.set_cons_succ]
    refine ordx_run (o := ⟨some 77, _, _, _, _, _⟩) rfl rfl (fun K hK => ?_)
    go_wp2_with fail
    refine (add_e e1 of_prime _).mono ?_
    rintro e w77 ⟨rfl, hb⟩
    replace st := st.call hb; clear hb
    refine hK.out _ _ st.tail ?_
    try simp only [Act.put, List.setIfInBounds_toArray, List.set_cons_zero, List.set_cons_succ]
    clear hK K
    refine ordx_run (o := ⟨some 79, _, _, _, _, _⟩) rfl rfl (fun K hK => ?_)
    go_wp2_with fail
    refine (equal_e (add_E e1 of_prime) e1 true (decide_eq_true (by grind)) _).mono ?_
    rintro e w79 ⟨rfl, hb⟩
    replace st := st.call hb; clear hb
    refine hK.out _ _ st.tail ?_
    try simp only [Act.put, List.setIfInBounds_toArray, List.set_cons_zero, List.set_cons_succ]
    clear hK K
    refine ordx_quiet (o := ⟨some 80, _, _, _, _, _⟩) (v := (.bool true)) rfl rfl (fun _ _ => by go_simp) ?_
    try simp only [Act.put, List.setIfInBounds_toArray, List.set_cons_zero, List.set_cons_succ]
    refine ordx_quiet (o := ⟨some 81, _, _, _, _, _⟩) (v := (.bool true)) rfl rfl (fun _ _ => rfl) ?_
    try simp only [Act.put, List.setIfInBounds_toArray, List.set_cons_zero, List.set_cons_succ]
    refine ordx_quiet (o := ⟨some 82, _, _, _, _, _⟩) (v := (.int .i64 12)) rfl rfl (fun _ _ => rfl) ?_
    try simp only [Act.put, List.setIfInBounds_toArray, List.set_cons_zero, List.set_cons_succ]
    refine ordx_quiet (o := ⟨some 83, _, _, _, _, _⟩) (v := (.bool true)) rfl rfl (fun _ _ => by go_simp) ?_
    try simp only [Act.put, List.setIfInBounds_toArray, List.set_cons_zero, List.set_cons_succ]
    refine ordx_quiet (o := ⟨some 84, _, _, _, _, _⟩) (v := (.bool true)) rfl rfl (fun _ _ => by go_simp) ?_
    try simp only [Act.put, List.setIfInBounds_toArray, List.set_cons_zero, List.set_cons_succ]
    refine ordx_quiet (o := ⟨some 85, _, _, _, _, _⟩) (v := (.bool true)) rfl rfl (fun _ _ => rfl) ?_
    try simp only [Act.put, List.setIfInBounds_toArray, List.set_cons_zero, List.set_cons_succ]
    refine ordx_run (o := ⟨some 86, _, _, _, _, _⟩) rfl rfl (fun K hK => ?_)
    go_wp2_with fail
    refine (awake_any _).mono ?_
    rintro e w86 ⟨rfl, hb⟩
    replace st := st.call hb; clear hb
    refine hK.out _ _ st.tail ?_
    try simp only [Act.put, List.setIfInBounds_toArray, List.set_cons_zero, List.set_cons_succ]
    clear hK K
    refine ordx_quiet (o := ⟨some 87, _, _, _, _, _⟩) (v := (.bool true)) rfl rfl (fun _ _ => by go_simp) ?_
    try simp only [Act.put, List.setIfInBounds_toArray, List.set_cons_zero, List.set_cons_succ]
    refine ordx_quiet (o := ⟨some 4, _, _, _, _, _⟩) (v := (.bool true)) rfl rfl (fun _ _ => rfl) ?_
    try simp only [Act.put, List.setIfInBounds_toArray, List.set_cons_zero, List.set_cons_succ]
    refine ordx_nil ?_
    go_wp2_with fail
    go_ret
    exact ⟨rfl, st.below⟩
end Go.Proofs.Ytdpongijmmdnoaa
