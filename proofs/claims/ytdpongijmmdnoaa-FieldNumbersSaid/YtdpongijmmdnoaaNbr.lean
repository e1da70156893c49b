/- FieldNumbers' walk: WRITTEN BY gen_num.py -/
import Derived.Test.YtdpongijmmdnoaaEe
namespace Go.Proofs.Ytdpongijmmdnoaa
open Go.RowKit FdP FdP.Ch

theorem z_ne {m n : Int} (h : ¬ m = n) (h1 : -1073741824 ≤ m) (h2 : m ≤ 1073741824) (h3 : -1073741824 ≤ n) (h4 : n ≤ 1073741824) : ¬ z m = z n := by
  intro e
  have e := z_eq.1 e
  have hp : (2147483649 : Int) < P := by rw [P_eq]; decide
  generalize (P : Int) = q at *
  have hd : q ∣ m - n := Int.dvd_of_emod_eq_zero (Int.emod_eq_emod_iff_emod_sub_eq_zero.1 e)
  obtain ⟨k, hk⟩ := hd
  by_cases h0 : k = 0
  · subst h0; omega
  · rcases Int.lt_or_gt_of_ne h0 with hl | hl
    · have : q * k ≤ q * (-1) := Int.mul_le_mul_of_nonneg_left (by omega) (by omega)
      omega
    · have : q * 1 ≤ q * k := Int.mul_le_mul_of_nonneg_left (by omega) (by omega)
      omega

theorem mul_in {m n : Int} (h1 : -1073741824 ≤ m) (h2 : m ≤ 1073741824) (h3 : -1073741824 ≤ n) (h4 : n ≤ 1073741824) : -4611686018427387904 ≤ m * n ∧ m * n ≤ 4611686018427387904 := by
  have a1 : 0 ≤ (m + 1073741824) * (1073741824 - n) := Int.mul_nonneg (by omega) (by omega)
  have a2 : 0 ≤ (1073741824 - m) * (n + 1073741824) := Int.mul_nonneg (by omega) (by omega)
  have a3 : 0 ≤ (m + 1073741824) * (n + 1073741824) := Int.mul_nonneg (by omega) (by omega)
  have a4 : 0 ≤ (1073741824 - m) * (1073741824 - n) := Int.mul_nonneg (by omega) (by omega)
  simp only [Int.add_mul, Int.mul_add, Int.sub_mul, Int.mul_sub] at a1 a2 a3 a4
  omega

set_option maxRecDepth 100000 in
set_option maxHeartbeats 4000000 in
theorem numbers_out (b1 : List Int) (l1 : b1.length = 56) (y1 : By b1) (m n : Int) (h : m < -1073741824 ∨ 1073741824 < m ∨ n < -1073741824 ∨ 1073741824 < n) (w : World) :
    Calls Try.prog 10 #[AG (ys b1), .int .i64 m, .int .i64 n] w fun e w' => e = .returned (.bool true) ∧ Below w.heap.size w w' := by
  have e1 := of_E b1 l1 y1
  generalize z (bval b1) = a1 at e1
  by_cases c1 : m < -1073741824
  · skip
    go_enter Try.func10, Try.ntmps10
    have st := St.start w
    go_wp2_with (first
      | ((with_reducible show wpList _ _ _ (⟨some 3, _, _, _, _, _⟩ :: _) _ _); refine wpList_box_st (o := ⟨some 3, _, _, _, _, _⟩) rfl 23 (.tmp 0) rfl (ys b1) rfl st ?_; clear st; intro g3 w3 st)
      | ((with_reducible show wpList _ _ _ (⟨some 12, _, _, _, _, _⟩ :: _) _ _); refine wpList_load_st (o := ⟨some 12, _, _, _, _, _⟩) rfl 23 (.tmp 3) rfl g3 0 rfl 56 aggR st 0 _ _ (AG (ys b1)) rfl (by first | omega | (simp; done) | (simp; omega)) (cut_all _ 56 (by first | omega | (simp; done) | (simp; omega))) ?_))
    refine (made_any b1 l1 _).mono ?_
    rintro e w13 ⟨rfl, hb⟩
    replace st := st.call hb; clear hb
    go_wp2_with (first
      | ((with_reducible show wpList _ _ _ (⟨some 7, _, _, _, _, _⟩ :: _) _ _); refine wpList_alloc_st (o := ⟨some 7, _, _, _, _, _⟩) rfl 27 rfl (us zE) zisE st ?_; clear st; intro g7 w7 st)
      | ((with_reducible show wpList _ _ _ (⟨none, .store 27 (.tmp 7) (.tmp 14), _, _, _, _⟩ :: _) _ _); refine wpList_store_st (o := ⟨none, _, _, _, _, _⟩) rfl 27 (.tmp 7) (.tmp 14) rfl g7 0 rfl (us (ofF b1)) rfl 8 aggE.size (by first | omega | (simp; done) | (simp; omega)) st 0 _ _ rfl (by first | omega | (simp; done) | (simp; omega)) (us_one _) (us (ofF b1)) (put_all _ _ 8 (by first | omega | (simp; done) | (simp; omega)) (by first | omega | (simp; done) | (simp; omega))) ?_; clear st; intro w_0 st))
    refine (awake_any _).mono ?_
    rintro e w36 ⟨rfl, hb⟩
    replace st := st.call hb; clear hb
    go_wp2_with fail
    go_ret
    exact ⟨rfl, st.below⟩
  · by_cases c2 : 1073741824 < m
    · skip
      go_enter Try.func10, Try.ntmps10
      have st := St.start w
      go_wp2_with (first
        | ((with_reducible show wpList _ _ _ (⟨some 3, _, _, _, _, _⟩ :: _) _ _); refine wpList_box_st (o := ⟨some 3, _, _, _, _, _⟩) rfl 23 (.tmp 0) rfl (ys b1) rfl st ?_; clear st; intro g3 w3 st)
        | ((with_reducible show wpList _ _ _ (⟨some 12, _, _, _, _, _⟩ :: _) _ _); refine wpList_load_st (o := ⟨some 12, _, _, _, _, _⟩) rfl 23 (.tmp 3) rfl g3 0 rfl 56 aggR st 0 _ _ (AG (ys b1)) rfl (by first | omega | (simp; done) | (simp; omega)) (cut_all _ 56 (by first | omega | (simp; done) | (simp; omega))) ?_))
      refine (made_any b1 l1 _).mono ?_
      rintro e w13 ⟨rfl, hb⟩
      replace st := st.call hb; clear hb
      go_wp2_with (first
        | ((with_reducible show wpList _ _ _ (⟨some 7, _, _, _, _, _⟩ :: _) _ _); refine wpList_alloc_st (o := ⟨some 7, _, _, _, _, _⟩) rfl 27 rfl (us zE) zisE st ?_; clear st; intro g7 w7 st)
        | ((with_reducible show wpList _ _ _ (⟨none, .store 27 (.tmp 7) (.tmp 14), _, _, _, _⟩ :: _) _ _); refine wpList_store_st (o := ⟨none, _, _, _, _, _⟩) rfl 27 (.tmp 7) (.tmp 14) rfl g7 0 rfl (us (ofF b1)) rfl 8 aggE.size (by first | omega | (simp; done) | (simp; omega)) st 0 _ _ rfl (by first | omega | (simp; done) | (simp; omega)) (us_one _) (us (ofF b1)) (put_all _ _ 8 (by first | omega | (simp; done) | (simp; omega)) (by first | omega | (simp; done) | (simp; omega))) ?_; clear st; intro w_0 st))
      refine (awake_any _).mono ?_
      rintro e w36 ⟨rfl, hb⟩
      replace st := st.call hb; clear hb
      go_wp2_with fail
      go_ret
      exact ⟨rfl, st.below⟩
    · by_cases c3 : n < -1073741824
      · skip
        go_enter Try.func10, Try.ntmps10
        have st := St.start w
        go_wp2_with (first
          | ((with_reducible show wpList _ _ _ (⟨some 3, _, _, _, _, _⟩ :: _) _ _); refine wpList_box_st (o := ⟨some 3, _, _, _, _, _⟩) rfl 23 (.tmp 0) rfl (ys b1) rfl st ?_; clear st; intro g3 w3 st)
          | ((with_reducible show wpList _ _ _ (⟨some 12, _, _, _, _, _⟩ :: _) _ _); refine wpList_load_st (o := ⟨some 12, _, _, _, _, _⟩) rfl 23 (.tmp 3) rfl g3 0 rfl 56 aggR st 0 _ _ (AG (ys b1)) rfl (by first | omega | (simp; done) | (simp; omega)) (cut_all _ 56 (by first | omega | (simp; done) | (simp; omega))) ?_))
        refine (made_any b1 l1 _).mono ?_
        rintro e w13 ⟨rfl, hb⟩
        replace st := st.call hb; clear hb
        go_wp2_with (first
          | ((with_reducible show wpList _ _ _ (⟨some 7, _, _, _, _, _⟩ :: _) _ _); refine wpList_alloc_st (o := ⟨some 7, _, _, _, _, _⟩) rfl 27 rfl (us zE) zisE st ?_; clear st; intro g7 w7 st)
          | ((with_reducible show wpList _ _ _ (⟨none, .store 27 (.tmp 7) (.tmp 14), _, _, _, _⟩ :: _) _ _); refine wpList_store_st (o := ⟨none, _, _, _, _, _⟩) rfl 27 (.tmp 7) (.tmp 14) rfl g7 0 rfl (us (ofF b1)) rfl 8 aggE.size (by first | omega | (simp; done) | (simp; omega)) st 0 _ _ rfl (by first | omega | (simp; done) | (simp; omega)) (us_one _) (us (ofF b1)) (put_all _ _ 8 (by first | omega | (simp; done) | (simp; omega)) (by first | omega | (simp; done) | (simp; omega))) ?_; clear st; intro w_0 st))
        refine (awake_any _).mono ?_
        rintro e w36 ⟨rfl, hb⟩
        replace st := st.call hb; clear hb
        go_wp2_with fail
        go_ret
        exact ⟨rfl, st.below⟩
      · have c4 : 1073741824 < n := by omega
        go_enter Try.func10, Try.ntmps10
        have st := St.start w
        go_wp2_with (first
          | ((with_reducible show wpList _ _ _ (⟨some 3, _, _, _, _, _⟩ :: _) _ _); refine wpList_box_st (o := ⟨some 3, _, _, _, _, _⟩) rfl 23 (.tmp 0) rfl (ys b1) rfl st ?_; clear st; intro g3 w3 st)
          | ((with_reducible show wpList _ _ _ (⟨some 12, _, _, _, _, _⟩ :: _) _ _); refine wpList_load_st (o := ⟨some 12, _, _, _, _, _⟩) rfl 23 (.tmp 3) rfl g3 0 rfl 56 aggR st 0 _ _ (AG (ys b1)) rfl (by first | omega | (simp; done) | (simp; omega)) (cut_all _ 56 (by first | omega | (simp; done) | (simp; omega))) ?_))
        refine (made_any b1 l1 _).mono ?_
        rintro e w13 ⟨rfl, hb⟩
        replace st := st.call hb; clear hb
        go_wp2_with (first
          | ((with_reducible show wpList _ _ _ (⟨some 7, _, _, _, _, _⟩ :: _) _ _); refine wpList_alloc_st (o := ⟨some 7, _, _, _, _, _⟩) rfl 27 rfl (us zE) zisE st ?_; clear st; intro g7 w7 st)
          | ((with_reducible show wpList _ _ _ (⟨none, .store 27 (.tmp 7) (.tmp 14), _, _, _, _⟩ :: _) _ _); refine wpList_store_st (o := ⟨none, _, _, _, _, _⟩) rfl 27 (.tmp 7) (.tmp 14) rfl g7 0 rfl (us (ofF b1)) rfl 8 aggE.size (by first | omega | (simp; done) | (simp; omega)) st 0 _ _ rfl (by first | omega | (simp; done) | (simp; omega)) (us_one _) (us (ofF b1)) (put_all _ _ 8 (by first | omega | (simp; done) | (simp; omega)) (by first | omega | (simp; done) | (simp; omega))) ?_; clear st; intro w_0 st))
        refine (awake_any _).mono ?_
        rintro e w36 ⟨rfl, hb⟩
        replace st := st.call hb; clear hb
        go_wp2_with fail
        go_ret
        exact ⟨rfl, st.below⟩

set_option maxRecDepth 100000 in
set_option maxHeartbeats 4000000 in
theorem numbers_in (b1 : List Int) (l1 : b1.length = 56) (y1 : By b1) (m n : Int) (c1 : ¬ m < -1073741824) (c2 : ¬ 1073741824 < m) (c3 : ¬ n < -1073741824) (c4 : ¬ 1073741824 < n) (w : World) :
    Calls Try.prog 10 #[AG (ys b1), .int .i64 m, .int .i64 n] w fun e w' => e = .returned (.bool true) ∧ Below w.heap.size w w' := by
  have e1 := of_E b1 l1 y1
  generalize z (bval b1) = a1 at e1
  have wa : IntKind.i64.wrap (m + n) = m + n := IntWalk.i64_in _ (by omega)
  have ws : IntKind.i64.wrap (m - n) = m - n := IntWalk.i64_in _ (by omega)
  have ba : -4611686018427387904 ≤ m * n ∧ m * n ≤ 4611686018427387904 := mul_in (by omega) (by omega) (by omega) (by omega)
  have wm : IntKind.i64.wrap (m * n) = m * n := IntWalk.i64_in _ (by omega)
  by_cases hmn : m = n
  · have hq : (m == n) = true := by simpa using hmn
    replace hmn := hide hmn
    go_enter Try.func10, Try.ntmps10
    have st := St.start w
    go_wp2_with (first
      | ((with_reducible show wpList _ _ _ (⟨some 3, _, _, _, _, _⟩ :: _) _ _); refine wpList_box_st (o := ⟨some 3, _, _, _, _, _⟩) rfl 23 (.tmp 0) rfl (ys b1) rfl st ?_; clear st; intro g3 w3 st)
      | ((with_reducible show wpList _ _ _ (⟨some 12, _, _, _, _, _⟩ :: _) _ _); refine wpList_load_st (o := ⟨some 12, _, _, _, _, _⟩) rfl 23 (.tmp 3) rfl g3 0 rfl 56 aggR st 0 _ _ (AG (ys b1)) rfl (by first | omega | (simp; done) | (simp; omega)) (cut_all _ 56 (by first | omega | (simp; done) | (simp; omega))) ?_))
    refine (made_any b1 l1 _).mono ?_
    rintro e w13 ⟨rfl, hb⟩
    replace st := st.call hb; clear hb
    go_wp2_with (first
      | ((with_reducible show wpList _ _ _ (⟨some 7, _, _, _, _, _⟩ :: _) _ _); refine wpList_alloc_st (o := ⟨some 7, _, _, _, _, _⟩) rfl 27 rfl (us zE) zisE st ?_; clear st; intro g7 w7 st)
      | ((with_reducible show wpList _ _ _ (⟨none, .store 27 (.tmp 7) (.tmp 14), _, _, _, _⟩ :: _) _ _); refine wpList_store_st (o := ⟨none, _, _, _, _, _⟩) rfl 27 (.tmp 7) (.tmp 14) rfl g7 0 rfl (us (ofF b1)) rfl 8 aggE.size (by first | omega | (simp; done) | (simp; omega)) st 0 _ _ rfl (by first | omega | (simp; done) | (simp; omega)) (us_one _) (us (ofF b1)) (put_all _ _ 8 (by first | omega | (simp; done) | (simp; omega)) (by first | omega | (simp; done) | (simp; omega))) ?_; clear st; intro w_0 st))
    refine (int_any (m) _).mono ?_
    rintro e w39 ⟨rfl, hb⟩
    replace st := st.call hb; clear hb
    go_wp2_with (first
      | ((with_reducible show wpList _ _ _ (⟨some 9, _, _, _, _, _⟩ :: _) _ _); refine wpList_alloc_st (o := ⟨some 9, _, _, _, _, _⟩) rfl 27 rfl (us zE) zisE st ?_; clear st; intro g9 w9 st)
      | ((with_reducible show wpList _ _ _ (⟨none, .store 27 (.tmp 9) (.tmp 39), _, _, _, _⟩ :: _) _ _); refine wpList_store_st (o := ⟨none, _, _, _, _, _⟩) rfl 27 (.tmp 9) (.tmp 39) rfl g9 0 rfl (us (intF (m))) rfl 8 aggE.size (by first | omega | (simp; done) | (simp; omega)) st 0 _ _ rfl (by first | omega | (simp; done) | (simp; omega)) (us_one _) (us (intF (m))) (put_all _ _ 8 (by first | omega | (simp; done) | (simp; omega)) (by first | omega | (simp; done) | (simp; omega))) ?_; clear st; intro w_1 st))
    refine (int_any (n) _).mono ?_
    rintro e w41 ⟨rfl, hb⟩
    replace st := st.call hb; clear hb
    go_wp2_with (first
      | ((with_reducible show wpList _ _ _ (⟨some 10, _, _, _, _, _⟩ :: _) _ _); refine wpList_alloc_st (o := ⟨some 10, _, _, _, _, _⟩) rfl 27 rfl (us zE) zisE st ?_; clear st; intro g10 w10 st)
      | ((with_reducible show wpList _ _ _ (⟨none, .store 27 (.tmp 10) (.tmp 41), _, _, _, _⟩ :: _) _ _); refine wpList_store_st (o := ⟨none, _, _, _, _, _⟩) rfl 27 (.tmp 10) (.tmp 41) rfl g10 0 rfl (us (intF (n))) rfl 8 aggE.size (by first | omega | (simp; done) | (simp; omega)) st 0 _ _ rfl (by first | omega | (simp; done) | (simp; omega)) (us_one _) (us (intF (n))) (put_all _ _ 8 (by first | omega | (simp; done) | (simp; omega)) (by first | omega | (simp; done) | (simp; omega))) ?_; clear st; intro w_2 st)
      | ((with_reducible show wpList _ _ _ (⟨some 42, _, _, _, _, _⟩ :: _) _ _); refine wpList_load_st (o := ⟨some 42, _, _, _, _, _⟩) rfl 27 (.tmp 9) rfl g9 0 rfl 8 aggE st 1 _ _ (AG (us (intF (m)))) rfl (by first | omega | (simp; done) | (simp; omega)) (cut_all _ 8 (by first | omega | (simp; done) | (simp; omega))) ?_)
      | ((with_reducible show wpList _ _ _ (⟨some 43, _, _, _, _, _⟩ :: _) _ _); refine wpList_load_st (o := ⟨some 43, _, _, _, _, _⟩) rfl 27 (.tmp 10) rfl g10 0 rfl 8 aggE st 0 _ _ (AG (us (intF (n)))) rfl (by first | omega | (simp; done) | (simp; omega)) (cut_all _ 8 (by first | omega | (simp; done) | (simp; omega))) ?_))
    refine (add_e (int_E (m) (by omega) (by omega)) (int_E (n) (by omega) (by omega)) _).mono ?_
    rintro e w44 ⟨rfl, hb⟩
    replace st := st.call hb; clear hb
    go_wp2_with fail
    refine (int_any (m + n) _).mono ?_
    rintro e w48 ⟨rfl, hb⟩
    replace st := st.call hb; clear hb
    go_wp2_with fail
    refine (equal_e (add_E (int_E (m) (by omega) (by omega)) (int_E (n) (by omega) (by omega))) (int_E (m + n) (by omega) (by omega)) true (decide_eq_true (by rw [z_add])) _).mono ?_
    rintro e w49 ⟨rfl, hb⟩
    replace st := st.call hb; clear hb
    go_wp2_with (first
      | ((with_reducible show wpList _ _ _ (⟨some 52, _, _, _, _, _⟩ :: _) _ _); refine wpList_loadg_st (o := ⟨some 52, _, _, _, _, _⟩) rfl 27 (.tmp 9) rfl g9 0 rfl 8 aggE st 1 _ _ (AG (us (intF (m)))) rfl (by first | omega | (simp; done) | (simp; omega)) (cut_all _ 8 (by first | omega | (simp; done) | (simp; omega))) ?_)
      | ((with_reducible show wpList _ _ _ (⟨some 53, _, _, _, _, _⟩ :: _) _ _); refine wpList_loadg_st (o := ⟨some 53, _, _, _, _, _⟩) rfl 27 (.tmp 10) rfl g10 0 rfl 8 aggE st 0 _ _ (AG (us (intF (n)))) rfl (by first | omega | (simp; done) | (simp; omega)) (cut_all _ 8 (by first | omega | (simp; done) | (simp; omega))) ?_))
    refine (sub_e (int_E (m) (by omega) (by omega)) (int_E (n) (by omega) (by omega)) _).mono ?_
    rintro e w54 ⟨rfl, hb⟩
    replace st := st.call hb; clear hb
    go_wp2_with fail
    refine (int_any (m - n) _).mono ?_
    rintro e w58 ⟨rfl, hb⟩
    replace st := st.call hb; clear hb
    go_wp2_with fail
    refine (equal_e (sub_E (int_E (m) (by omega) (by omega)) (int_E (n) (by omega) (by omega))) (int_E (m - n) (by omega) (by omega)) true (decide_eq_true (by rw [z_sub])) _).mono ?_
    rintro e w59 ⟨rfl, hb⟩
    replace st := st.call hb; clear hb
    go_wp2_with (first
      | ((with_reducible show wpList _ _ _ (⟨some 63, _, _, _, _, _⟩ :: _) _ _); refine wpList_loadg_st (o := ⟨some 63, _, _, _, _, _⟩) rfl 27 (.tmp 9) rfl g9 0 rfl 8 aggE st 1 _ _ (AG (us (intF (m)))) rfl (by first | omega | (simp; done) | (simp; omega)) (cut_all _ 8 (by first | omega | (simp; done) | (simp; omega))) ?_)
      | ((with_reducible show wpList _ _ _ (⟨some 64, _, _, _, _, _⟩ :: _) _ _); refine wpList_loadg_st (o := ⟨some 64, _, _, _, _, _⟩) rfl 27 (.tmp 10) rfl g10 0 rfl 8 aggE st 0 _ _ (AG (us (intF (n)))) rfl (by first | omega | (simp; done) | (simp; omega)) (cut_all _ 8 (by first | omega | (simp; done) | (simp; omega))) ?_))
    refine (mul_e (int_E (m) (by omega) (by omega)) (int_E (n) (by omega) (by omega)) _).mono ?_
    rintro e w65 ⟨rfl, hb⟩
    replace st := st.call hb; clear hb
    go_wp2_with fail
    refine (int_any (m * n) _).mono ?_
    rintro e w69 ⟨rfl, hb⟩
    replace st := st.call hb; clear hb
    go_wp2_with fail
    refine (equal_e (mul_E (int_E (m) (by omega) (by omega)) (int_E (n) (by omega) (by omega))) (int_E (m * n) (by omega) (by omega)) true (decide_eq_true (by rw [z_mul])) _).mono ?_
    rintro e w70 ⟨rfl, hb⟩
    replace st := st.call hb; clear hb
    go_wp2_with (first
      | ((with_reducible show wpList _ _ _ (⟨some 74, _, _, _, _, _⟩ :: _) _ _); refine wpList_loadg_st (o := ⟨some 74, _, _, _, _, _⟩) rfl 27 (.tmp 9) rfl g9 0 rfl 8 aggE st 1 _ _ (AG (us (intF (m)))) rfl (by first | omega | (simp; done) | (simp; omega)) (cut_all _ 8 (by first | omega | (simp; done) | (simp; omega))) ?_)
      | ((with_reducible show wpList _ _ _ (⟨some 75, _, _, _, _, _⟩ :: _) _ _); refine wpList_loadg_st (o := ⟨some 75, _, _, _, _, _⟩) rfl 27 (.tmp 10) rfl g10 0 rfl 8 aggE st 0 _ _ (AG (us (intF (n)))) rfl (by first | omega | (simp; done) | (simp; omega)) (cut_all _ 8 (by first | omega | (simp; done) | (simp; omega))) ?_))
    refine (equal_e (int_E (m) (by omega) (by omega)) (int_E (n) (by omega) (by omega)) true (decide_eq_true (by rw [hmn.out])) _).mono ?_
    rintro e w76 ⟨rfl, hb⟩
    replace st := st.call hb; clear hb
    go_wp2_with fail
    refine wp_region_stab [0, 1, 2, 3, 4, 5, 6, 7, 8, 9, 10, 11, 12, 13, 14, 15, 16, 17, 18, 19, 20, 21, 22, 23, 24, 25, 26, 27, 28, 29] (fun W => St w W [(g10, us (intF (n)), 27), (g9, us (intF (m)), 27), (g7, us (ofF b1), 27), (g3, ys b1, 23)]) (by kernel_rfl) (by kernel_rfl) (by kernel_rfl) (fun _ _ d _ _ h => by cases d <;> exact h) st.drew ?_
    clear st
    refine stab_load (o := ⟨some 82, _, _, _, _, _⟩) rfl rfl 27 (.tmp 7) rfl g7 0 rfl 8 aggE (us (ofF b1)) _ (AG (us (ofF b1))) (fun W hS => hS.get 2 rfl) (by first | omega | (simp; done) | (simp; omega)) (cut_all _ 8 (by first | omega | (simp; done) | (simp; omega))) ?_
    try simp only [Act.put, List.setIfInBounds_toArray, List.set_cons_zero, List.set_cons_succ]
    refine stab_quiet (o := ⟨some 83, _, _, _, _, _⟩) (v := (.int .i64 (m))) rfl rfl (fun _ _ => rfl) ?_
    try simp only [Act.put, List.setIfInBounds_toArray, List.set_cons_zero, List.set_cons_succ]
    refine stab_call (o := ⟨some 84, _, _, _, _, _⟩) rfl rfl 39 [(.tmp 82), (.tmp 83)] _ rfl [(AG (us (ofF b1))), (.int .i64 (m))] rfl (AG (us (mulF (ofF b1) (intF (m))))) (fun W => enters _ _ W _ Try.func39 rfl (by kernel_rfl)) (fun W hS => (times_e e1 (m) _).mono (by rintro e w' ⟨rfl, hb⟩; exact ⟨rfl, hS.call hb⟩)) ?_
    try simp only [Act.put, List.setIfInBounds_toArray, List.set_cons_zero, List.set_cons_succ]
    refine stab_load (o := ⟨some 85, _, _, _, _, _⟩) rfl rfl 27 (.tmp 7) rfl g7 0 rfl 8 aggE (us (ofF b1)) _ (AG (us (ofF b1))) (fun W hS => hS.get 2 rfl) (by first | omega | (simp; done) | (simp; omega)) (cut_all _ 8 (by first | omega | (simp; done) | (simp; omega))) ?_
    try simp only [Act.put, List.setIfInBounds_toArray, List.set_cons_zero, List.set_cons_succ]
    refine stab_quiet (o := ⟨some 86, _, _, _, _, _⟩) (v := (.int .i64 (n))) rfl rfl (fun _ _ => rfl) ?_
    try simp only [Act.put, List.setIfInBounds_toArray, List.set_cons_zero, List.set_cons_succ]
    refine stab_call (o := ⟨some 87, _, _, _, _, _⟩) rfl rfl 39 [(.tmp 85), (.tmp 86)] _ rfl [(AG (us (ofF b1))), (.int .i64 (n))] rfl (AG (us (mulF (ofF b1) (intF (n))))) (fun W => enters _ _ W _ Try.func39 rfl (by kernel_rfl)) (fun W hS => (times_e e1 (n) _).mono (by rintro e w' ⟨rfl, hb⟩; exact ⟨rfl, hS.call hb⟩)) ?_
    try simp only [Act.put, List.setIfInBounds_toArray, List.set_cons_zero, List.set_cons_succ]
    refine stab_call (o := ⟨some 88, _, _, _, _, _⟩) rfl rfl 14 [(.tmp 84), (.tmp 87)] _ rfl [(AG (us (mulF (ofF b1) (intF (m))))), (AG (us (mulF (ofF b1) (intF (n)))))] rfl (AG (us (addF (mulF (ofF b1) (intF (m))) (mulF (ofF b1) (intF (n)))))) (fun W => enters _ _ W _ Try.func14 rfl (by kernel_rfl)) (fun W hS => (add_e (times_E e1 (m) (by omega) (by omega)) (times_E e1 (n) (by omega) (by omega)) _).mono (by rintro e w' ⟨rfl, hb⟩; exact ⟨rfl, hS.call hb⟩)) ?_
    try simp only [Act.put, List.setIfInBounds_toArray, List.set_cons_zero, List.set_cons_succ]
    refine stab_load (o := ⟨some 89, _, _, _, _, _⟩) rfl rfl 27 (.tmp 7) rfl g7 0 rfl 8 aggE (us (ofF b1)) _ (AG (us (ofF b1))) (fun W hS => hS.get 2 rfl) (by first | omega | (simp; done) | (simp; omega)) (cut_all _ 8 (by first | omega | (simp; done) | (simp; omega))) ?_
    try simp only [Act.put, List.setIfInBounds_toArray, List.set_cons_zero, List.set_cons_succ]
    refine stab_quiet (o := ⟨some 90, _, _, _, _, _⟩) (v := (.int .i64 (m))) rfl rfl (fun _ _ => rfl) ?_
    try simp only [Act.put, List.setIfInBounds_toArray, List.set_cons_zero, List.set_cons_succ]
    refine stab_quiet (o := ⟨some 91, _, _, _, _, _⟩) (v := (.int .i64 (n))) rfl rfl (fun _ _ => rfl) ?_
    try simp only [Act.put, List.setIfInBounds_toArray, List.set_cons_zero, List.set_cons_succ]
    refine stab_quiet (o := ⟨some 92, _, _, _, _, _⟩) (v := (.int .i64 (m + n))) rfl rfl (fun _ _ => by go_simp) ?_
    try simp only [Act.put, List.setIfInBounds_toArray, List.set_cons_zero, List.set_cons_succ]
    refine stab_call (o := ⟨some 93, _, _, _, _, _⟩) rfl rfl 39 [(.tmp 89), (.tmp 92)] _ rfl [(AG (us (ofF b1))), (.int .i64 (m + n))] rfl (AG (us (mulF (ofF b1) (intF (m + n))))) (fun W => enters _ _ W _ Try.func39 rfl (by kernel_rfl)) (fun W hS => (times_e e1 (m + n) _).mono (by rintro e w' ⟨rfl, hb⟩; exact ⟨rfl, hS.call hb⟩)) ?_
    try simp only [Act.put, List.setIfInBounds_toArray, List.set_cons_zero, List.set_cons_succ]
    refine stab_call (o := ⟨some 94, _, _, _, _, _⟩) rfl rfl 22 [(.tmp 88), (.tmp 93)] _ rfl [(AG (us (addF (mulF (ofF b1) (intF (m))) (mulF (ofF b1) (intF (n)))))), (AG (us (mulF (ofF b1) (intF (m + n)))))] rfl (.bool true) (fun W => enters _ _ W _ Try.func22 rfl (by kernel_rfl)) (fun W hS => (equal_e (add_E (times_E e1 (m) (by omega) (by omega)) (times_E e1 (n) (by omega) (by omega))) (times_E e1 (m + n) (by omega) (by omega)) true (decide_eq_true (by rw [z_add]; grind)) _).mono (by rintro e w' ⟨rfl, hb⟩; exact ⟨rfl, hS.call hb⟩)) ?_
    try simp only [Act.put, List.setIfInBounds_toArray, List.set_cons_zero, List.set_cons_succ]
    refine stab_quiet (o := ⟨some 95, _, _, _, _, _⟩) (v := (.bool true)) rfl rfl (fun _ _ => rfl) ?_
    try simp only [Act.put, List.setIfInBounds_toArray, List.set_cons_zero, List.set_cons_succ]
    refine stab_load (o := ⟨some 96, _, _, _, _, _⟩) rfl rfl 27 (.tmp 7) rfl g7 0 rfl 8 aggE (us (ofF b1)) _ (AG (us (ofF b1))) (fun W hS => hS.get 2 rfl) (by first | omega | (simp; done) | (simp; omega)) (cut_all _ 8 (by first | omega | (simp; done) | (simp; omega))) ?_
    try simp only [Act.put, List.setIfInBounds_toArray, List.set_cons_zero, List.set_cons_succ]
    refine stab_quiet (o := ⟨some 97, _, _, _, _, _⟩) (v := (.int .i64 (m))) rfl rfl (fun _ _ => rfl) ?_
    try simp only [Act.put, List.setIfInBounds_toArray, List.set_cons_zero, List.set_cons_succ]
    refine stab_call (o := ⟨some 98, _, _, _, _, _⟩) rfl rfl 39 [(.tmp 96), (.tmp 97)] _ rfl [(AG (us (ofF b1))), (.int .i64 (m))] rfl (AG (us (mulF (ofF b1) (intF (m))))) (fun W => enters _ _ W _ Try.func39 rfl (by kernel_rfl)) (fun W hS => (times_e e1 (m) _).mono (by rintro e w' ⟨rfl, hb⟩; exact ⟨rfl, hS.call hb⟩)) ?_
    try simp only [Act.put, List.setIfInBounds_toArray, List.set_cons_zero, List.set_cons_succ]
    refine stab_quiet (o := ⟨some 99, _, _, _, _, _⟩) (v := (.int .i64 (n))) rfl rfl (fun _ _ => rfl) ?_
    try simp only [Act.put, List.setIfInBounds_toArray, List.set_cons_zero, List.set_cons_succ]
    refine stab_call (o := ⟨some 100, _, _, _, _, _⟩) rfl rfl 39 [(.tmp 98), (.tmp 99)] _ rfl [(AG (us (mulF (ofF b1) (intF (m))))), (.int .i64 (n))] rfl (AG (us (mulF (mulF (ofF b1) (intF (m))) (intF (n))))) (fun W => enters _ _ W _ Try.func39 rfl (by kernel_rfl)) (fun W hS => (times_e (times_E e1 (m) (by omega) (by omega)) (n) _).mono (by rintro e w' ⟨rfl, hb⟩; exact ⟨rfl, hS.call hb⟩)) ?_
    try simp only [Act.put, List.setIfInBounds_toArray, List.set_cons_zero, List.set_cons_succ]
    refine stab_load (o := ⟨some 101, _, _, _, _, _⟩) rfl rfl 27 (.tmp 7) rfl g7 0 rfl 8 aggE (us (ofF b1)) _ (AG (us (ofF b1))) (fun W hS => hS.get 2 rfl) (by first | omega | (simp; done) | (simp; omega)) (cut_all _ 8 (by first | omega | (simp; done) | (simp; omega))) ?_
    try simp only [Act.put, List.setIfInBounds_toArray, List.set_cons_zero, List.set_cons_succ]
    refine stab_quiet (o := ⟨some 102, _, _, _, _, _⟩) (v := (.int .i64 (m))) rfl rfl (fun _ _ => rfl) ?_
    try simp only [Act.put, List.setIfInBounds_toArray, List.set_cons_zero, List.set_cons_succ]
    refine stab_quiet (o := ⟨some 103, _, _, _, _, _⟩) (v := (.int .i64 (n))) rfl rfl (fun _ _ => rfl) ?_
    try simp only [Act.put, List.setIfInBounds_toArray, List.set_cons_zero, List.set_cons_succ]
    refine stab_quiet (o := ⟨some 104, _, _, _, _, _⟩) (v := (.int .i64 (m * n))) rfl rfl (fun _ _ => by go_simp) ?_
    try simp only [Act.put, List.setIfInBounds_toArray, List.set_cons_zero, List.set_cons_succ]
    refine stab_call (o := ⟨some 105, _, _, _, _, _⟩) rfl rfl 39 [(.tmp 101), (.tmp 104)] _ rfl [(AG (us (ofF b1))), (.int .i64 (m * n))] rfl (AG (us (mulF (ofF b1) (intF (m * n))))) (fun W => enters _ _ W _ Try.func39 rfl (by kernel_rfl)) (fun W hS => (times_e e1 (m * n) _).mono (by rintro e w' ⟨rfl, hb⟩; exact ⟨rfl, hS.call hb⟩)) ?_
    try simp only [Act.put, List.setIfInBounds_toArray, List.set_cons_zero, List.set_cons_succ]
    refine stab_call (o := ⟨some 106, _, _, _, _, _⟩) rfl rfl 22 [(.tmp 100), (.tmp 105)] _ rfl [(AG (us (mulF (mulF (ofF b1) (intF (m))) (intF (n))))), (AG (us (mulF (ofF b1) (intF (m * n)))))] rfl (.bool true) (fun W => enters _ _ W _ Try.func22 rfl (by kernel_rfl)) (fun W hS => (equal_e (times_E (times_E e1 (m) (by omega) (by omega)) (n) (by omega) (by omega)) (times_E e1 (m * n) (by omega) (by omega)) true (decide_eq_true (by rw [z_mul]; grind)) _).mono (by rintro e w' ⟨rfl, hb⟩; exact ⟨rfl, hS.call hb⟩)) ?_
    try simp only [Act.put, List.setIfInBounds_toArray, List.set_cons_zero, List.set_cons_succ]
    refine stab_quiet (o := ⟨some 107, _, _, _, _, _⟩) (v := (.bool true)) rfl rfl (fun _ _ => by go_simp) ?_
    try simp only [Act.put, List.setIfInBounds_toArray, List.set_cons_zero, List.set_cons_succ]
    refine stab_quiet (o := ⟨some 108, _, _, _, _, _⟩) (v := (.bool true)) rfl rfl (fun _ _ => rfl) ?_
    try simp only [Act.put, List.setIfInBounds_toArray, List.set_cons_zero, List.set_cons_succ]
    refine stab_call (o := ⟨some 109, _, _, _, _, _⟩) rfl rfl 20 [] _ rfl [] rfl (.bool true) (fun W => enters _ _ W _ Try.func20 rfl (by kernel_rfl)) (fun W hS => (awake_any _).mono (by rintro e w' ⟨rfl, hb⟩; exact ⟨rfl, hS.call hb⟩)) ?_
    try simp only [Act.put, List.setIfInBounds_toArray, List.set_cons_zero, List.set_cons_succ]
    refine stab_quiet (o := ⟨some 110, _, _, _, _, _⟩) (v := (.bool true)) rfl rfl (fun _ _ => by go_simp) ?_
    try simp only [Act.put, List.setIfInBounds_toArray, List.set_cons_zero, List.set_cons_succ]
    refine stab_quiet (o := ⟨some 6, _, _, _, _, _⟩) (v := (.bool true)) rfl rfl (fun _ _ => rfl) ?_
    try simp only [Act.put, List.setIfInBounds_toArray, List.set_cons_zero, List.set_cons_succ]
    refine stab_nil ?_
    intro w_r8 st
    go_wp2_with fail
    go_ret
    exact ⟨rfl, st.below⟩
  · have hq : (m == n) = false := by simpa using hmn
    go_enter Try.func10, Try.ntmps10
    have st := St.start w
    go_wp2_with (first
      | ((with_reducible show wpList _ _ _ (⟨some 3, _, _, _, _, _⟩ :: _) _ _); refine wpList_box_st (o := ⟨some 3, _, _, _, _, _⟩) rfl 23 (.tmp 0) rfl (ys b1) rfl st ?_; clear st; intro g3 w3 st)
      | ((with_reducible show wpList _ _ _ (⟨some 12, _, _, _, _, _⟩ :: _) _ _); refine wpList_load_st (o := ⟨some 12, _, _, _, _, _⟩) rfl 23 (.tmp 3) rfl g3 0 rfl 56 aggR st 0 _ _ (AG (ys b1)) rfl (by first | omega | (simp; done) | (simp; omega)) (cut_all _ 56 (by first | omega | (simp; done) | (simp; omega))) ?_))
    refine (made_any b1 l1 _).mono ?_
    rintro e w13 ⟨rfl, hb⟩
    replace st := st.call hb; clear hb
    go_wp2_with (first
      | ((with_reducible show wpList _ _ _ (⟨some 7, _, _, _, _, _⟩ :: _) _ _); refine wpList_alloc_st (o := ⟨some 7, _, _, _, _, _⟩) rfl 27 rfl (us zE) zisE st ?_; clear st; intro g7 w7 st)
      | ((with_reducible show wpList _ _ _ (⟨none, .store 27 (.tmp 7) (.tmp 14), _, _, _, _⟩ :: _) _ _); refine wpList_store_st (o := ⟨none, _, _, _, _, _⟩) rfl 27 (.tmp 7) (.tmp 14) rfl g7 0 rfl (us (ofF b1)) rfl 8 aggE.size (by first | omega | (simp; done) | (simp; omega)) st 0 _ _ rfl (by first | omega | (simp; done) | (simp; omega)) (us_one _) (us (ofF b1)) (put_all _ _ 8 (by first | omega | (simp; done) | (simp; omega)) (by first | omega | (simp; done) | (simp; omega))) ?_; clear st; intro w_0 st))
    refine (int_any (m) _).mono ?_
    rintro e w39 ⟨rfl, hb⟩
    replace st := st.call hb; clear hb
    go_wp2_with (first
      | ((with_reducible show wpList _ _ _ (⟨some 9, _, _, _, _, _⟩ :: _) _ _); refine wpList_alloc_st (o := ⟨some 9, _, _, _, _, _⟩) rfl 27 rfl (us zE) zisE st ?_; clear st; intro g9 w9 st)
      | ((with_reducible show wpList _ _ _ (⟨none, .store 27 (.tmp 9) (.tmp 39), _, _, _, _⟩ :: _) _ _); refine wpList_store_st (o := ⟨none, _, _, _, _, _⟩) rfl 27 (.tmp 9) (.tmp 39) rfl g9 0 rfl (us (intF (m))) rfl 8 aggE.size (by first | omega | (simp; done) | (simp; omega)) st 0 _ _ rfl (by first | omega | (simp; done) | (simp; omega)) (us_one _) (us (intF (m))) (put_all _ _ 8 (by first | omega | (simp; done) | (simp; omega)) (by first | omega | (simp; done) | (simp; omega))) ?_; clear st; intro w_1 st))
    refine (int_any (n) _).mono ?_
    rintro e w41 ⟨rfl, hb⟩
    replace st := st.call hb; clear hb
    go_wp2_with (first
      | ((with_reducible show wpList _ _ _ (⟨some 10, _, _, _, _, _⟩ :: _) _ _); refine wpList_alloc_st (o := ⟨some 10, _, _, _, _, _⟩) rfl 27 rfl (us zE) zisE st ?_; clear st; intro g10 w10 st)
      | ((with_reducible show wpList _ _ _ (⟨none, .store 27 (.tmp 10) (.tmp 41), _, _, _, _⟩ :: _) _ _); refine wpList_store_st (o := ⟨none, _, _, _, _, _⟩) rfl 27 (.tmp 10) (.tmp 41) rfl g10 0 rfl (us (intF (n))) rfl 8 aggE.size (by first | omega | (simp; done) | (simp; omega)) st 0 _ _ rfl (by first | omega | (simp; done) | (simp; omega)) (us_one _) (us (intF (n))) (put_all _ _ 8 (by first | omega | (simp; done) | (simp; omega)) (by first | omega | (simp; done) | (simp; omega))) ?_; clear st; intro w_2 st)
      | ((with_reducible show wpList _ _ _ (⟨some 42, _, _, _, _, _⟩ :: _) _ _); refine wpList_load_st (o := ⟨some 42, _, _, _, _, _⟩) rfl 27 (.tmp 9) rfl g9 0 rfl 8 aggE st 1 _ _ (AG (us (intF (m)))) rfl (by first | omega | (simp; done) | (simp; omega)) (cut_all _ 8 (by first | omega | (simp; done) | (simp; omega))) ?_)
      | ((with_reducible show wpList _ _ _ (⟨some 43, _, _, _, _, _⟩ :: _) _ _); refine wpList_load_st (o := ⟨some 43, _, _, _, _, _⟩) rfl 27 (.tmp 10) rfl g10 0 rfl 8 aggE st 0 _ _ (AG (us (intF (n)))) rfl (by first | omega | (simp; done) | (simp; omega)) (cut_all _ 8 (by first | omega | (simp; done) | (simp; omega))) ?_))
    refine (add_e (int_E (m) (by omega) (by omega)) (int_E (n) (by omega) (by omega)) _).mono ?_
    rintro e w44 ⟨rfl, hb⟩
    replace st := st.call hb; clear hb
    go_wp2_with fail
    refine (int_any (m + n) _).mono ?_
    rintro e w48 ⟨rfl, hb⟩
    replace st := st.call hb; clear hb
    go_wp2_with fail
    refine (equal_e (add_E (int_E (m) (by omega) (by omega)) (int_E (n) (by omega) (by omega))) (int_E (m + n) (by omega) (by omega)) true (decide_eq_true (by rw [z_add])) _).mono ?_
    rintro e w49 ⟨rfl, hb⟩
    replace st := st.call hb; clear hb
    go_wp2_with (first
      | ((with_reducible show wpList _ _ _ (⟨some 52, _, _, _, _, _⟩ :: _) _ _); refine wpList_loadg_st (o := ⟨some 52, _, _, _, _, _⟩) rfl 27 (.tmp 9) rfl g9 0 rfl 8 aggE st 1 _ _ (AG (us (intF (m)))) rfl (by first | omega | (simp; done) | (simp; omega)) (cut_all _ 8 (by first | omega | (simp; done) | (simp; omega))) ?_)
      | ((with_reducible show wpList _ _ _ (⟨some 53, _, _, _, _, _⟩ :: _) _ _); refine wpList_loadg_st (o := ⟨some 53, _, _, _, _, _⟩) rfl 27 (.tmp 10) rfl g10 0 rfl 8 aggE st 0 _ _ (AG (us (intF (n)))) rfl (by first | omega | (simp; done) | (simp; omega)) (cut_all _ 8 (by first | omega | (simp; done) | (simp; omega))) ?_))
    refine (sub_e (int_E (m) (by omega) (by omega)) (int_E (n) (by omega) (by omega)) _).mono ?_
    rintro e w54 ⟨rfl, hb⟩
    replace st := st.call hb; clear hb
    go_wp2_with fail
    refine (int_any (m - n) _).mono ?_
    rintro e w58 ⟨rfl, hb⟩
    replace st := st.call hb; clear hb
    go_wp2_with fail
    refine (equal_e (sub_E (int_E (m) (by omega) (by omega)) (int_E (n) (by omega) (by omega))) (int_E (m - n) (by omega) (by omega)) true (decide_eq_true (by rw [z_sub])) _).mono ?_
    rintro e w59 ⟨rfl, hb⟩
    replace st := st.call hb; clear hb
    go_wp2_with (first
      | ((with_reducible show wpList _ _ _ (⟨some 63, _, _, _, _, _⟩ :: _) _ _); refine wpList_loadg_st (o := ⟨some 63, _, _, _, _, _⟩) rfl 27 (.tmp 9) rfl g9 0 rfl 8 aggE st 1 _ _ (AG (us (intF (m)))) rfl (by first | omega | (simp; done) | (simp; omega)) (cut_all _ 8 (by first | omega | (simp; done) | (simp; omega))) ?_)
      | ((with_reducible show wpList _ _ _ (⟨some 64, _, _, _, _, _⟩ :: _) _ _); refine wpList_loadg_st (o := ⟨some 64, _, _, _, _, _⟩) rfl 27 (.tmp 10) rfl g10 0 rfl 8 aggE st 0 _ _ (AG (us (intF (n)))) rfl (by first | omega | (simp; done) | (simp; omega)) (cut_all _ 8 (by first | omega | (simp; done) | (simp; omega))) ?_))
    refine (mul_e (int_E (m) (by omega) (by omega)) (int_E (n) (by omega) (by omega)) _).mono ?_
    rintro e w65 ⟨rfl, hb⟩
    replace st := st.call hb; clear hb
    go_wp2_with fail
    refine (int_any (m * n) _).mono ?_
    rintro e w69 ⟨rfl, hb⟩
    replace st := st.call hb; clear hb
    go_wp2_with fail
    refine (equal_e (mul_E (int_E (m) (by omega) (by omega)) (int_E (n) (by omega) (by omega))) (int_E (m * n) (by omega) (by omega)) true (decide_eq_true (by rw [z_mul])) _).mono ?_
    rintro e w70 ⟨rfl, hb⟩
    replace st := st.call hb; clear hb
    go_wp2_with (first
      | ((with_reducible show wpList _ _ _ (⟨some 74, _, _, _, _, _⟩ :: _) _ _); refine wpList_loadg_st (o := ⟨some 74, _, _, _, _, _⟩) rfl 27 (.tmp 9) rfl g9 0 rfl 8 aggE st 1 _ _ (AG (us (intF (m)))) rfl (by first | omega | (simp; done) | (simp; omega)) (cut_all _ 8 (by first | omega | (simp; done) | (simp; omega))) ?_)
      | ((with_reducible show wpList _ _ _ (⟨some 75, _, _, _, _, _⟩ :: _) _ _); refine wpList_loadg_st (o := ⟨some 75, _, _, _, _, _⟩) rfl 27 (.tmp 10) rfl g10 0 rfl 8 aggE st 0 _ _ (AG (us (intF (n)))) rfl (by first | omega | (simp; done) | (simp; omega)) (cut_all _ 8 (by first | omega | (simp; done) | (simp; omega))) ?_))
    refine (equal_e (int_E (m) (by omega) (by omega)) (int_E (n) (by omega) (by omega)) false (decide_eq_false (z_ne hmn (by omega) (by omega) (by omega) (by omega))) _).mono ?_
    rintro e w76 ⟨rfl, hb⟩
    replace st := st.call hb; clear hb
    go_wp2_with fail
    refine wp_region_stab [0, 1, 2, 3, 4, 5, 6, 7, 8, 9, 10, 11, 12, 13, 14, 15, 16, 17, 18, 19, 20, 21, 22, 23, 24, 25, 26, 27, 28, 29] (fun W => St w W [(g10, us (intF (n)), 27), (g9, us (intF (m)), 27), (g7, us (ofF b1), 27), (g3, ys b1, 23)]) (by kernel_rfl) (by kernel_rfl) (by kernel_rfl) (fun _ _ d _ _ h => by cases d <;> exact h) st.drew ?_
    clear st
    refine stab_load (o := ⟨some 82, _, _, _, _, _⟩) rfl rfl 27 (.tmp 7) rfl g7 0 rfl 8 aggE (us (ofF b1)) _ (AG (us (ofF b1))) (fun W hS => hS.get 2 rfl) (by first | omega | (simp; done) | (simp; omega)) (cut_all _ 8 (by first | omega | (simp; done) | (simp; omega))) ?_
    try simp only [Act.put, List.setIfInBounds_toArray, List.set_cons_zero, List.set_cons_succ]
    refine stab_quiet (o := ⟨some 83, _, _, _, _, _⟩) (v := (.int .i64 (m))) rfl rfl (fun _ _ => rfl) ?_
    try simp only [Act.put, List.setIfInBounds_toArray, List.set_cons_zero, List.set_cons_succ]
    refine stab_call (o := ⟨some 84, _, _, _, _, _⟩) rfl rfl 39 [(.tmp 82), (.tmp 83)] _ rfl [(AG (us (ofF b1))), (.int .i64 (m))] rfl (AG (us (mulF (ofF b1) (intF (m))))) (fun W => enters _ _ W _ Try.func39 rfl (by kernel_rfl)) (fun W hS => (times_e e1 (m) _).mono (by rintro e w' ⟨rfl, hb⟩; exact ⟨rfl, hS.call hb⟩)) ?_
    try simp only [Act.put, List.setIfInBounds_toArray, List.set_cons_zero, List.set_cons_succ]
    refine stab_load (o := ⟨some 85, _, _, _, _, _⟩) rfl rfl 27 (.tmp 7) rfl g7 0 rfl 8 aggE (us (ofF b1)) _ (AG (us (ofF b1))) (fun W hS => hS.get 2 rfl) (by first | omega | (simp; done) | (simp; omega)) (cut_all _ 8 (by first | omega | (simp; done) | (simp; omega))) ?_
    try simp only [Act.put, List.setIfInBounds_toArray, List.set_cons_zero, List.set_cons_succ]
    refine stab_quiet (o := ⟨some 86, _, _, _, _, _⟩) (v := (.int .i64 (n))) rfl rfl (fun _ _ => rfl) ?_
    try simp only [Act.put, List.setIfInBounds_toArray, List.set_cons_zero, List.set_cons_succ]
    refine stab_call (o := ⟨some 87, _, _, _, _, _⟩) rfl rfl 39 [(.tmp 85), (.tmp 86)] _ rfl [(AG (us (ofF b1))), (.int .i64 (n))] rfl (AG (us (mulF (ofF b1) (intF (n))))) (fun W => enters _ _ W _ Try.func39 rfl (by kernel_rfl)) (fun W hS => (times_e e1 (n) _).mono (by rintro e w' ⟨rfl, hb⟩; exact ⟨rfl, hS.call hb⟩)) ?_
    try simp only [Act.put, List.setIfInBounds_toArray, List.set_cons_zero, List.set_cons_succ]
    refine stab_call (o := ⟨some 88, _, _, _, _, _⟩) rfl rfl 14 [(.tmp 84), (.tmp 87)] _ rfl [(AG (us (mulF (ofF b1) (intF (m))))), (AG (us (mulF (ofF b1) (intF (n)))))] rfl (AG (us (addF (mulF (ofF b1) (intF (m))) (mulF (ofF b1) (intF (n)))))) (fun W => enters _ _ W _ Try.func14 rfl (by kernel_rfl)) (fun W hS => (add_e (times_E e1 (m) (by omega) (by omega)) (times_E e1 (n) (by omega) (by omega)) _).mono (by rintro e w' ⟨rfl, hb⟩; exact ⟨rfl, hS.call hb⟩)) ?_
    try simp only [Act.put, List.setIfInBounds_toArray, List.set_cons_zero, List.set_cons_succ]
    refine stab_load (o := ⟨some 89, _, _, _, _, _⟩) rfl rfl 27 (.tmp 7) rfl g7 0 rfl 8 aggE (us (ofF b1)) _ (AG (us (ofF b1))) (fun W hS => hS.get 2 rfl) (by first | omega | (simp; done) | (simp; omega)) (cut_all _ 8 (by first | omega | (simp; done) | (simp; omega))) ?_
    try simp only [Act.put, List.setIfInBounds_toArray, List.set_cons_zero, List.set_cons_succ]
    refine stab_quiet (o := ⟨some 90, _, _, _, _, _⟩) (v := (.int .i64 (m))) rfl rfl (fun _ _ => rfl) ?_
    try simp only [Act.put, List.setIfInBounds_toArray, List.set_cons_zero, List.set_cons_succ]
    refine stab_quiet (o := ⟨some 91, _, _, _, _, _⟩) (v := (.int .i64 (n))) rfl rfl (fun _ _ => rfl) ?_
    try simp only [Act.put, List.setIfInBounds_toArray, List.set_cons_zero, List.set_cons_succ]
    refine stab_quiet (o := ⟨some 92, _, _, _, _, _⟩) (v := (.int .i64 (m + n))) rfl rfl (fun _ _ => by go_simp) ?_
    try simp only [Act.put, List.setIfInBounds_toArray, List.set_cons_zero, List.set_cons_succ]
    refine stab_call (o := ⟨some 93, _, _, _, _, _⟩) rfl rfl 39 [(.tmp 89), (.tmp 92)] _ rfl [(AG (us (ofF b1))), (.int .i64 (m + n))] rfl (AG (us (mulF (ofF b1) (intF (m + n))))) (fun W => enters _ _ W _ Try.func39 rfl (by kernel_rfl)) (fun W hS => (times_e e1 (m + n) _).mono (by rintro e w' ⟨rfl, hb⟩; exact ⟨rfl, hS.call hb⟩)) ?_
    try simp only [Act.put, List.setIfInBounds_toArray, List.set_cons_zero, List.set_cons_succ]
    refine stab_call (o := ⟨some 94, _, _, _, _, _⟩) rfl rfl 22 [(.tmp 88), (.tmp 93)] _ rfl [(AG (us (addF (mulF (ofF b1) (intF (m))) (mulF (ofF b1) (intF (n)))))), (AG (us (mulF (ofF b1) (intF (m + n)))))] rfl (.bool true) (fun W => enters _ _ W _ Try.func22 rfl (by kernel_rfl)) (fun W hS => (equal_e (add_E (times_E e1 (m) (by omega) (by omega)) (times_E e1 (n) (by omega) (by omega))) (times_E e1 (m + n) (by omega) (by omega)) true (decide_eq_true (by rw [z_add]; grind)) _).mono (by rintro e w' ⟨rfl, hb⟩; exact ⟨rfl, hS.call hb⟩)) ?_
    try simp only [Act.put, List.setIfInBounds_toArray, List.set_cons_zero, List.set_cons_succ]
    refine stab_quiet (o := ⟨some 95, _, _, _, _, _⟩) (v := (.bool true)) rfl rfl (fun _ _ => rfl) ?_
    try simp only [Act.put, List.setIfInBounds_toArray, List.set_cons_zero, List.set_cons_succ]
    refine stab_load (o := ⟨some 96, _, _, _, _, _⟩) rfl rfl 27 (.tmp 7) rfl g7 0 rfl 8 aggE (us (ofF b1)) _ (AG (us (ofF b1))) (fun W hS => hS.get 2 rfl) (by first | omega | (simp; done) | (simp; omega)) (cut_all _ 8 (by first | omega | (simp; done) | (simp; omega))) ?_
    try simp only [Act.put, List.setIfInBounds_toArray, List.set_cons_zero, List.set_cons_succ]
    refine stab_quiet (o := ⟨some 97, _, _, _, _, _⟩) (v := (.int .i64 (m))) rfl rfl (fun _ _ => rfl) ?_
    try simp only [Act.put, List.setIfInBounds_toArray, List.set_cons_zero, List.set_cons_succ]
    refine stab_call (o := ⟨some 98, _, _, _, _, _⟩) rfl rfl 39 [(.tmp 96), (.tmp 97)] _ rfl [(AG (us (ofF b1))), (.int .i64 (m))] rfl (AG (us (mulF (ofF b1) (intF (m))))) (fun W => enters _ _ W _ Try.func39 rfl (by kernel_rfl)) (fun W hS => (times_e e1 (m) _).mono (by rintro e w' ⟨rfl, hb⟩; exact ⟨rfl, hS.call hb⟩)) ?_
    try simp only [Act.put, List.setIfInBounds_toArray, List.set_cons_zero, List.set_cons_succ]
    refine stab_quiet (o := ⟨some 99, _, _, _, _, _⟩) (v := (.int .i64 (n))) rfl rfl (fun _ _ => rfl) ?_
    try simp only [Act.put, List.setIfInBounds_toArray, List.set_cons_zero, List.set_cons_succ]
    refine stab_call (o := ⟨some 100, _, _, _, _, _⟩) rfl rfl 39 [(.tmp 98), (.tmp 99)] _ rfl [(AG (us (mulF (ofF b1) (intF (m))))), (.int .i64 (n))] rfl (AG (us (mulF (mulF (ofF b1) (intF (m))) (intF (n))))) (fun W => enters _ _ W _ Try.func39 rfl (by kernel_rfl)) (fun W hS => (times_e (times_E e1 (m) (by omega) (by omega)) (n) _).mono (by rintro e w' ⟨rfl, hb⟩; exact ⟨rfl, hS.call hb⟩)) ?_
    try simp only [Act.put, List.setIfInBounds_toArray, List.set_cons_zero, List.set_cons_succ]
    refine stab_load (o := ⟨some 101, _, _, _, _, _⟩) rfl rfl 27 (.tmp 7) rfl g7 0 rfl 8 aggE (us (ofF b1)) _ (AG (us (ofF b1))) (fun W hS => hS.get 2 rfl) (by first | omega | (simp; done) | (simp; omega)) (cut_all _ 8 (by first | omega | (simp; done) | (simp; omega))) ?_
    try simp only [Act.put, List.setIfInBounds_toArray, List.set_cons_zero, List.set_cons_succ]
    refine stab_quiet (o := ⟨some 102, _, _, _, _, _⟩) (v := (.int .i64 (m))) rfl rfl (fun _ _ => rfl) ?_
    try simp only [Act.put, List.setIfInBounds_toArray, List.set_cons_zero, List.set_cons_succ]
    refine stab_quiet (o := ⟨some 103, _, _, _, _, _⟩) (v := (.int .i64 (n))) rfl rfl (fun _ _ => rfl) ?_
    try simp only [Act.put, List.setIfInBounds_toArray, List.set_cons_zero, List.set_cons_succ]
    refine stab_quiet (o := ⟨some 104, _, _, _, _, _⟩) (v := (.int .i64 (m * n))) rfl rfl (fun _ _ => by go_simp) ?_
    try simp only [Act.put, List.setIfInBounds_toArray, List.set_cons_zero, List.set_cons_succ]
    refine stab_call (o := ⟨some 105, _, _, _, _, _⟩) rfl rfl 39 [(.tmp 101), (.tmp 104)] _ rfl [(AG (us (ofF b1))), (.int .i64 (m * n))] rfl (AG (us (mulF (ofF b1) (intF (m * n))))) (fun W => enters _ _ W _ Try.func39 rfl (by kernel_rfl)) (fun W hS => (times_e e1 (m * n) _).mono (by rintro e w' ⟨rfl, hb⟩; exact ⟨rfl, hS.call hb⟩)) ?_
    try simp only [Act.put, List.setIfInBounds_toArray, List.set_cons_zero, List.set_cons_succ]
    refine stab_call (o := ⟨some 106, _, _, _, _, _⟩) rfl rfl 22 [(.tmp 100), (.tmp 105)] _ rfl [(AG (us (mulF (mulF (ofF b1) (intF (m))) (intF (n))))), (AG (us (mulF (ofF b1) (intF (m * n)))))] rfl (.bool true) (fun W => enters _ _ W _ Try.func22 rfl (by kernel_rfl)) (fun W hS => (equal_e (times_E (times_E e1 (m) (by omega) (by omega)) (n) (by omega) (by omega)) (times_E e1 (m * n) (by omega) (by omega)) true (decide_eq_true (by rw [z_mul]; grind)) _).mono (by rintro e w' ⟨rfl, hb⟩; exact ⟨rfl, hS.call hb⟩)) ?_
    try simp only [Act.put, List.setIfInBounds_toArray, List.set_cons_zero, List.set_cons_succ]
    refine stab_quiet (o := ⟨some 107, _, _, _, _, _⟩) (v := (.bool true)) rfl rfl (fun _ _ => by go_simp) ?_
    try simp only [Act.put, List.setIfInBounds_toArray, List.set_cons_zero, List.set_cons_succ]
    refine stab_quiet (o := ⟨some 108, _, _, _, _, _⟩) (v := (.bool true)) rfl rfl (fun _ _ => rfl) ?_
    try simp only [Act.put, List.setIfInBounds_toArray, List.set_cons_zero, List.set_cons_succ]
    refine stab_call (o := ⟨some 109, _, _, _, _, _⟩) rfl rfl 20 [] _ rfl [] rfl (.bool true) (fun W => enters _ _ W _ Try.func20 rfl (by kernel_rfl)) (fun W hS => (awake_any _).mono (by rintro e w' ⟨rfl, hb⟩; exact ⟨rfl, hS.call hb⟩)) ?_
    try simp only [Act.put, List.setIfInBounds_toArray, List.set_cons_zero, List.set_cons_succ]
    refine stab_quiet (o := ⟨some 110, _, _, _, _, _⟩) (v := (.bool true)) rfl rfl (fun _ _ => by go_simp) ?_
    try simp only [Act.put, List.setIfInBounds_toArray, List.set_cons_zero, List.set_cons_succ]
    refine stab_quiet (o := ⟨some 6, _, _, _, _, _⟩) (v := (.bool true)) rfl rfl (fun _ _ => rfl) ?_
    try simp only [Act.put, List.setIfInBounds_toArray, List.set_cons_zero, List.set_cons_succ]
    refine stab_nil ?_
    intro w_r8 st
    go_wp2_with fail
    go_ret
    exact ⟨rfl, st.below⟩

theorem numbers_any (b1 : List Int) (l1 : b1.length = 56) (y1 : By b1) (m n : Int) (w : World) :
    Calls Try.prog 10 #[AG (ys b1), .int .i64 m, .int .i64 n] w fun e w' => e = .returned (.bool true) ∧ Below w.heap.size w w' := by
  by_cases h : m < -1073741824 ∨ 1073741824 < m ∨ n < -1073741824 ∨ 1073741824 < n
  · exact numbers_out b1 l1 y1 m n h w
  · exact numbers_in b1 l1 y1 m n (by omega) (by omega) (by omega) (by omega) w
end Go.Proofs.Ytdpongijmmdnoaa
