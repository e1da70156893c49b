/- slices.Equal, field.Decode -/
import Derived.Test.YtdpongijmmdnoaaEqb
namespace Go.Proofs.Ytdpongijmmdnoaa
open Go.RowKit FdP FdP.Ch

set_option maxHeartbeats 1000000 in
theorem slicesEq_any (xs zs : List Int) (v u : Value) (w : World) (hv : Sv w v xs) (hu : Sv w u zs) (hlt : xs.length ≤ 1000000) :
    Calls Try.prog 53 #[v, u] w fun e w' => e = .returned (.bool (decide (xs = zs))) ∧ Below w.heap.size w w' := by
  obtain ⟨a, cap, rfl, ha⟩ := hv
  obtain ⟨b, cap', rfl, hb⟩ := hu
  by_cases hl : xs.length = zs.length
  · by_cases h0 : xs.length = 0
    · have e1 : xs = [] := List.eq_nil_of_length_eq_zero h0
      have e2 : zs = [] := List.eq_nil_of_length_eq_zero (by omega)
      subst e1; subst e2
      clear ha hb hl h0
      go_enter Try.func53, Try.ntmps53
      try simp only [List.length_nil]
      go_wp2_with fail
      go_loopw [13] (fun i wr => i = .int .i64 0 ∧ wr = w) (fun _ _ => 0)
      case atStart => exact ⟨rfl, rfl⟩
      case round =>
        obtain ⟨rfl, rfl⟩ := hrel
        go_wp2
        go_ret
        exact ⟨rfl, Below.refl _ _⟩
    · obtain ⟨g, off, rfl, r1⟩ := ha (by omega)
      obtain ⟨g', off', rfl, r2⟩ := hb (by omega)
      clear ha hb
      rw [← hl]
      have R1 := hide r1; have R2 := hide r2
      clear r1 r2
      have Hl := hide hl; clear hl
      generalize hn : xs.length = n at *
      have Hn := hide hn; clear hn
      have hd : ((n : Int) != (n : Int)) = false := by simp
      go_enter Try.func53, Try.ntmps53
      go_wp2_with fail
      go_loopw [13] (fun i wr => ∃ k : Nat, k ≤ n ∧ i = .int .i64 k ∧ Hid (∀ j, j < k → xs.getD j 0 = zs.getD j 0) ∧ Below w.heap.size w wr) (fun i _ => n - (intOf i).toNat)
      case atStart => exact ⟨0, by omega, rfl, hide (fun j hj => by omega), Below.refl _ _⟩
      case round =>
        obtain ⟨k, hk, rfl, heq, hb⟩ := hrel
        by_cases hlt : k < n
        · have hlt' : (k : Int) < (n : Int) := by omega
          have c1 := (R1.out.below hb) k (by rw [Hn.out]; exact hlt)
          have c2 := (R2.out.below hb) k (by rw [← Hl.out]; exact hlt)
          generalize hx : xs.getD k 0 = x at c1
          generalize hy : zs.getD k 0 = y at c2
          have Hx := hide hx; have Hy := hide hy; clear hx hy
          by_cases hxy : x = y
          · have q : (x != y) = false := by simpa using hxy
            have Hxy := hide hxy; clear hxy
            go_wp2
            go_quiet (fail)
            go_wp2
            go_roundw
            case rel => exact ⟨k + 1, by omega, by go_num, hide (fun j hj => by
              by_cases hjk : j = k
              · subst hjk; rw [Hx.out, Hy.out, Hxy.out]
              · exact heq.out j (by omega)), Below.drewN hb _⟩
            case measure => simp [intOf]; omega
          · have q : (x != y) = true := by simpa using hxy
            have Hxy := hide hxy; clear hxy
            have hne : decide (xs = zs) = false := decide_eq_false (fun e => Hxy.out (by rw [← Hx.out, ← Hy.out, e]))
            have Hne := hide hne; clear hne
            go_wp2
            go_quiet (fail)
            go_wp2
            go_ret
            exact ⟨by rw [Hne.out]; rfl, Below.drewN hb _⟩
        · have : k = n := by omega
          subst this
          have he : decide (xs = zs) = true := decide_eq_true (getD_ext (by rw [Hn.out]; exact Hl.out) (fun j hj => heq.out j (by rw [Hn.out] at hj; exact hj)))
          have He := hide he; clear he
          go_wp2
          go_ret
          exact ⟨by rw [He.out]; rfl, hb⟩
  · have hne : decide (xs = zs) = false := decide_eq_false (fun e => hl (by rw [e]))
    rw [hne]
    clear ha hb hne
    generalize xs.length = n at *
    generalize zs.length = m at *
    have q : ((n : Int) != (m : Int)) = true := by simp; omega
    go_enter Try.func53, Try.ntmps53
    go_wp2
    go_ret
    exact ⟨rfl, Below.refl _ _⟩

set_option maxHeartbeats 1000000 in
theorem decode_any (g off cap : Nat) (b : List Int) (lb : b.length = 56) (yb : By b) (w : World) (hr : Rd w g off b) :
    Calls Try.prog 27 #[.slice (some ⟨g, off, none⟩) 56 cap] w
      fun e w' => e = .returned (.tuple #[AG (us (if bytesF (ofF b) = b then ofF b else zE)), .int .i64 (if bytesF (ofF b) = b then 0 else 12)]) ∧ Below w.heap.size w w' := by
  have Hr := hide hr
  go_enter Try.func27, Try.ntmps27
  have st := St.start w
  go_wp2_with ((with_reducible show wpList _ _ _ (⟨some 2, _, _, _, _, _⟩ :: _) _ _); refine wpList_alloc_st (o := ⟨some 2, _, _, _, _, _⟩) rfl 27 rfl (us zE) zisE st ?_; clear st; intro g2 w2 st)
  refine (of_any g off cap b lb _ (hr.below st.below)).mono ?_
  clear hr
  rintro e w8 ⟨rfl, hb⟩
  replace st := st.call hb; clear hb
  go_wp2_with (first
    | ((with_reducible show wpList _ _ _ (⟨some 4, _, _, _, _, _⟩ :: _) _ _); refine wpList_alloc_st (o := ⟨some 4, _, _, _, _, _⟩) rfl 27 rfl (us zE) zisE st ?_; clear st; intro g4 w4 st)
    | ((with_reducible show wpList _ _ _ (⟨none, .store 27 (.tmp 4) (.tmp 9), _, _, _, _⟩ :: _) _ _); refine wpList_store_st (o := ⟨none, _, _, _, _, _⟩) rfl 27 (.tmp 4) (.tmp 9) rfl g4 0 rfl (us (ofF b)) rfl 8 aggE.size (by simp) st 0 _ _ rfl (by simp) (us_one _) (us (ofF b)) (put_all _ _ 8 (by simp) (by simp)) ?_; clear st; intro w_0 st)
    | ((with_reducible show wpList _ _ _ (⟨some 15, _, _, _, _, _⟩ :: _) _ _); refine wpList_load_st (o := ⟨some 15, _, _, _, _, _⟩) rfl 27 (.tmp 4) rfl g4 0 rfl 8 aggE st 0 _ _ (AG (us (ofF b))) rfl (by simp) (cut_all _ 8 (by simp)) ?_))
  refine (bytes_any (ofF b) (by simp) (of_E b lb yb).bd _).mono ?_
  rintro e w16 ⟨v16, rfl, hs, hb⟩
  have st0 := st
  replace st := st.call hb; clear hb st0
  have hsv := hs.sv
  clear hs
  go_wp2_with fail
  refine (slicesEq_any (bytesF (ofF b)) b v16 _ _ hsv ⟨_, cap, by rw [lb], fun _ => ⟨g, off, rfl, Hr.out.below st.below⟩⟩ (by simp)).mono ?_
  rintro e w18 ⟨rfl, hb⟩
  clear hsv
  replace st := st.call hb; clear hb
  by_cases hq : bytesF (ofF b) = b
  · rw [decide_eq_true hq]
    simp only [hq, if_true]
    have Hq := hide hq; clear hq
    go_wp2_with (first
      | ((with_reducible show wpList _ _ _ (⟨some 21, _, _, _, _, _⟩ :: _) _ _); refine wpList_load_st (o := ⟨some 21, _, _, _, _, _⟩) rfl 27 (.tmp 4) rfl g4 0 rfl 8 aggE st 0 _ _ (AG (us (ofF b))) rfl (by simp) (cut_all _ 8 (by simp)) ?_)
      | ((with_reducible show wpList _ _ _ (⟨none, .store 27 (.tmp 2) (.tmp 21), _, _, _, _⟩ :: _) _ _); refine wpList_store_st (o := ⟨none, _, _, _, _, _⟩) rfl 27 (.tmp 2) (.tmp 21) rfl g2 0 rfl (us (ofF b)) rfl 8 aggE.size (by simp) st 1 _ _ rfl (by simp) (us_one _) (us (ofF b)) (put_all _ _ 8 (by simp) (by simp)) ?_; clear st; intro w_1 st))
    exact post2_st rfl g2 rfl st 1 _ _ rfl 8 aggE (by simp) _ rfl rfl ⟨by simp only [Hq.out, if_true]; rfl, st.below⟩
  · rw [decide_eq_false hq]
    have Hq := hide hq; clear hq
    go_wp2_with (first
      | ((with_reducible show wpList _ _ _ (⟨some 20, _, _, _, _, _⟩ :: _) _ _); refine wpList_build (o := ⟨some 20, _, _, _, _, _⟩) rfl 27 [] rfl [] rfl (AG (us zE)) build_E0 ?_)
      | ((with_reducible show wpList _ _ _ (⟨none, .store 27 (.tmp 2) (.tmp 20), _, _, _, _⟩ :: _) _ _); refine wpList_store_st (o := ⟨none, _, _, _, _, _⟩) rfl 27 (.tmp 2) (.tmp 20) rfl g2 0 rfl (us zE) rfl 8 aggE.size (by simp) st 1 _ _ rfl (by simp) (us_one _) (us zE) (put_all _ _ 8 (by simp) (by simp)) ?_; clear st; intro w_1 st))
    exact post2_st rfl g2 rfl st 1 _ _ rfl 8 aggE (by simp) _ rfl rfl ⟨by simp only [Hq.out, if_false]; rfl, st.below⟩

set_option maxHeartbeats 1000000 in
theorem decode_bad (a : Option Addr) (n cap : Nat) (hn : n ≠ 56) (w : World) :
    Calls Try.prog 27 #[.slice a n cap] w fun e w' => e = .returned (.tuple #[AG (us zE), .int .i64 11]) ∧ Below w.heap.size w w' := by
  go_enter Try.func27, Try.ntmps27
  have st := St.start w
  go_wp2_with ((with_reducible show wpList _ _ _ (⟨some 2, _, _, _, _, _⟩ :: _) _ _); refine wpList_alloc_st (o := ⟨some 2, _, _, _, _, _⟩) rfl 27 rfl (us zE) zisE st ?_; clear st; intro g2 w2 st)
  refine (of_bad a n cap hn _).mono ?_
  rintro e w8 ⟨rfl, hb⟩
  replace st := st.call hb; clear hb
  go_wp2_with (first
    | ((with_reducible show wpList _ _ _ (⟨some 4, _, _, _, _, _⟩ :: _) _ _); refine wpList_alloc_st (o := ⟨some 4, _, _, _, _, _⟩) rfl 27 rfl (us zE) zisE st ?_; clear st; intro g4 w4 st)
    | ((with_reducible show wpList _ _ _ (⟨none, .store 27 (.tmp 4) (.tmp 9), _, _, _, _⟩ :: _) _ _); refine wpList_store_st (o := ⟨none, _, _, _, _, _⟩) rfl 27 (.tmp 4) (.tmp 9) rfl g4 0 rfl (us zE) rfl 8 aggE.size (by simp) st 0 _ _ rfl (by simp) (us_one _) (us zE) (put_all _ _ 8 (by simp) (by simp)) ?_; clear st; intro w_0 st)
    | ((with_reducible show wpList _ _ _ (⟨some 13, _, _, _, _, _⟩ :: _) _ _); refine wpList_build (o := ⟨some 13, _, _, _, _, _⟩) rfl 27 [] rfl [] rfl (AG (us zE)) build_E0 ?_)
    | ((with_reducible show wpList _ _ _ (⟨none, .store 27 (.tmp 2) (.tmp 13), _, _, _, _⟩ :: _) _ _); refine wpList_store_st (o := ⟨none, _, _, _, _, _⟩) rfl 27 (.tmp 2) (.tmp 13) rfl g2 0 rfl (us zE) rfl 8 aggE.size (by simp) st 1 _ _ rfl (by simp) (us_one _) (us zE) (put_all _ _ 8 (by simp) (by simp)) ?_; clear st; intro w_1 st))
  exact post2_st rfl g2 rfl st 1 _ _ rfl 8 aggE (by simp) _ rfl rfl ⟨rfl, st.below⟩
end Go.Proofs.Ytdpongijmmdnoaa
