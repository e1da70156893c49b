/- (field.Element).strong: strong_head.txt with the lines of gen_strong.py -/
import Derived.Test.YtdpongijmmdnoaaInt
namespace Go.Proofs.Ytdpongijmmdnoaa
open Go.RowKit

theorem wrap_bd (x : Int) : 0 ≤ IntKind.u64.wrap x ∧ IntKind.u64.wrap x < 18446744073709551616 := by rw [IntKind.wrap_u64]; omega

theorem bd_set {l : List Int} (h : Bd l) (i : Nat) (v : Int) (hv : 0 ≤ v ∧ v < 18446744073709551616) : Bd (l.set i v) := by
  intro x hx
  rcases List.mem_or_eq_of_mem_set hx with h1 | h1
  · exact h x h1
  · rw [h1]; exact hv
theorem bd_get {l : List Int} (h : Bd l) (i : Nat) (hi : i < l.length) : 0 ≤ l.getD i 0 ∧ l.getD i 0 < 18446744073709551616 := by
  have : l.getD i 0 = l[i] := by simp [List.getD, hi]
  rw [this]; exact h _ (List.getElem_mem hi)
theorem carryTo_bd (l : List Int) (h : Bd l) (k : Nat) : Bd (carryTo l k).1 := by
  induction k with
  | zero => exact h
  | succ k ih => exact bd_set ih _ _ (by omega)
theorem carryF_bd (l : List Int) (h : Bd l) : Bd (carryF l) :=
  bd_set (bd_set (carryTo_bd l h 8) _ _ (by omega)) _ _ (by omega)

/-- less p, behind k limbs: and what is lent -/
def strT (c : List Int) : Nat → List Int × Int
  | 0 => (c, 0)
  | k + 1 => ((strT c k).1.set k ((c.getD k 0 - IntKind.u64.wrap (primeL.getD k 0 + (strT c k).2)) % 72057594037927936), sbH (c.getD k 0) (IntKind.u64.wrap (primeL.getD k 0 + (strT c k).2)))
theorem strT_len (c : List Int) (k : Nat) : (strT c k).1.length = c.length := by
  induction k with
  | zero => rfl
  | succ k ih => simp [strT, ih]
def strongF (l : List Int) : List Int :=
  let c := carryF (carryF l)
  selF (wrap64 (IntKind.u64.wrap (1 - (strT c 8).2))) c (strT c 8).1
@[simp] theorem strongF_len (l : List Int) : (strongF l).length = 8 := by simp [strongF]

set_option maxRecDepth 100000 in
set_option maxHeartbeats 1000000 in
theorem strong_any (l : List Int) (ll : l.length = 8) (bl : Bd l) (w : World) :
    Calls Try.prog 50 #[AG (us l)] w fun e w' => e = .returned (AG (us (strongF l))) ∧ Below w.heap.size w w' := by
  go_enter Try.func50, Try.ntmps50
  have st := St.start w
  go_wp2_with (first
    | ((with_reducible show wpList _ _ _ (⟨some 1, _, _, _, _, _⟩ :: _) _ _); refine wpList_box_st (o := ⟨some 1, _, _, _, _, _⟩) rfl 27 (.tmp 0) rfl (us l) rfl st ?_; clear st; intro g1 w1 st)
    | ((with_reducible show wpList _ _ _ (⟨some 2, _, _, _, _, _⟩ :: _) _ _); refine wpList_alloc_st (o := ⟨some 2, _, _, _, _, _⟩) rfl 27 rfl (us zE) zisE st ?_; clear st; intro g2 w2 st)
    | ((with_reducible show wpList _ _ _ (⟨some 8, _, _, _, _, _⟩ :: _) _ _); refine wpList_load_st (o := ⟨some 8, _, _, _, _, _⟩) rfl 27 (.tmp 1) rfl g1 0 rfl 8 aggE st 1 _ _ (AG (us l)) rfl (by first | omega | (simp; done) | (simp; omega)) (cut_all _ 8 (by first | omega | (simp; done) | (simp; omega))) ?_))
  refine (carry_any l (by first | omega | (simp; done) | (simp; omega)) _).mono ?_
  rintro e w9 ⟨rfl, hb⟩
  replace st := st.call hb; clear hb
  go_wp2_with fail
  refine (carry_any (carryF l) (by first | omega | (simp; done) | (simp; omega)) _).mono ?_
  rintro e w10 ⟨rfl, hb⟩
  replace st := st.call hb; clear hb
  go_wp2_with ((with_reducible show wpList _ _ _ (⟨none, .store 27 (.tmp 1) (.tmp 10), _, _, _, _⟩ :: _) _ _); refine wpList_store_st (o := ⟨none, _, _, _, _, _⟩) rfl 27 (.tmp 1) (.tmp 10) rfl g1 0 rfl (us (carryF (carryF l))) rfl 8 aggE.size (by first | omega | (simp; done) | (simp; omega)) st 1 _ _ rfl (by first | omega | (simp; done) | (simp; omega)) (us_one _) (us (carryF (carryF l))) (put_all _ _ 8 (by first | omega | (simp; done) | (simp; omega)) (by first | omega | (simp; done) | (simp; omega))) ?_; clear st; intro w_0 st)
  refine (prime_any _).mono ?_
  rintro e w11 ⟨rfl, hb⟩
  replace st := st.call hb; clear hb
  go_wp2_with (first
    | ((with_reducible show wpList _ _ _ (⟨some 3, _, _, _, _, _⟩ :: _) _ _); refine wpList_alloc_st (o := ⟨some 3, _, _, _, _, _⟩) rfl 25 rfl (us zE) zis8 st ?_; clear st; intro g3 w3 st)
    | ((with_reducible show wpList _ _ _ (⟨none, .store 25 (.tmp 3) (.tmp 11), _, _, _, _⟩ :: _) _ _); refine wpList_store_st (o := ⟨none, _, _, _, _, _⟩) rfl 25 (.tmp 3) (.tmp 11) rfl g3 0 rfl (us primeL) rfl 8 agg8.size (by first | omega | (simp; done) | (simp; omega)) st 0 _ _ rfl (by first | omega | (simp; done) | (simp; omega)) (us_one _) (us primeL) (put_all _ _ 8 (by first | omega | (simp; done) | (simp; omega)) (by first | omega | (simp; done) | (simp; omega))) ?_; clear st; intro w_1 st)
    | ((with_reducible show wpList _ _ _ (⟨some 12, _, _, _, _, _⟩ :: _) _ _); refine wpList_load_st (o := ⟨some 12, _, _, _, _, _⟩) rfl 27 (.tmp 1) rfl g1 0 rfl 8 aggE st 2 _ _ (AG (us (carryF (carryF l)))) rfl (by first | omega | (simp; done) | (simp; omega)) (cut_all _ 8 (by first | omega | (simp; done) | (simp; omega))) ?_)
    | ((with_reducible show wpList _ _ _ (⟨some 5, _, _, _, _, _⟩ :: _) _ _); refine wpList_alloc_st (o := ⟨some 5, _, _, _, _, _⟩) rfl 27 rfl (us zE) zisE st ?_; clear st; intro g5 w5 st)
    | ((with_reducible show wpList _ _ _ (⟨none, .store 27 (.tmp 5) (.tmp 12), _, _, _, _⟩ :: _) _ _); refine wpList_store_st (o := ⟨none, _, _, _, _, _⟩) rfl 27 (.tmp 5) (.tmp 12) rfl g5 0 rfl (us (carryF (carryF l))) rfl 8 aggE.size (by first | omega | (simp; done) | (simp; omega)) st 0 _ _ rfl (by first | omega | (simp; done) | (simp; omega)) (us_one _) (us (carryF (carryF l))) (put_all _ _ 8 (by first | omega | (simp; done) | (simp; omega)) (by first | omega | (simp; done) | (simp; omega))) ?_; clear st; intro w_2 st))
  have lc : (carryF (carryF l)).length = 8 := by simp [ll]
  have bc := hide (fun i (hi : i < 8) => bd_get (carryF_bd _ (carryF_bd _ bl)) i (by rw [lc]; exact hi))
  generalize hc : carryF (carryF l) = c at st lc bc
  have Hc := hide hc; clear hc
  go_loopw [4, 13] (fun t i wr => ∃ k : Nat, k ≤ 8 ∧ i = .int .i64 k ∧ t = .int .u64 (strT c k).2 ∧ St w wr [(g5, us (strT c k).1, 27), (g3, us primeL, 25), (g2, us zE, 27), (g1, us c, 27)]) (fun _ i _ => 8 - (intOf i).toNat)
  case atStart => exact ⟨0, by omega, rfl, rfl, st⟩
  case round =>
    obtain ⟨k, hk, rfl, rfl, st'⟩ := hrel
    clear st
    have st := st'; clear st'
    have lb : (strT c k).1.length = 8 := by rw [strT_len]; exact lc
    generalize hq : strT c k = q at st lb
    obtain ⟨b, o⟩ := q
    have Hq := hide hq; clear hq
    dsimp only at st lb
    by_cases kl : k < 8
    · have kl' : (k : Int) < 8 := by omega
      have Lb := hide lb; clear lb
      go_wp2_with fail
      go_wp2_with fail
      refine wp_region_ordx [(0, 0), (1, 0), (2, 0), (3, 0), (4, 0), (5, 0), (6, 0), (7, 0), (8, 0), (9, 0), (10, 0), (11, 0), (12, 0), (13, 0), (14, 0)] (fun W => St w W [(g5, us b, 27), (g3, us primeL, 25), (g2, us zE, 27), (g1, us c, 27)]) (by kernel_rfl) (by kernel_rfl) (by kernel_rfl) (fun _ _ d _ _ h => by cases d <;> exact h) st.drew ?_
      replace st := st.drew
      refine ordx_quiet (o := ⟨some 17, _, _, _, _, _⟩) (v := (.int .i64 (↑k))) rfl rfl (fun _ _ => rfl) ?_
      try simp only [Act.put, List.setIfInBounds_toArray, List.set_cons_zero, List.set_cons_succ]
      refine ordx_quiet (o := ⟨some 18, _, _, _, _, _⟩) (v := (.pointer (some ⟨g1, 0, none⟩))) rfl rfl (fun _ _ => by go_simp) ?_
      try simp only [Act.put, List.setIfInBounds_toArray, List.set_cons_zero, List.set_cons_succ]
      refine ordx_quiet (o := ⟨some 19, _, _, _, _, _⟩) (v := (.pointer (some ⟨g1, k, none⟩))) rfl rfl (fun _ _ => by go_simp) ?_
      try simp only [Act.put, List.setIfInBounds_toArray, List.set_cons_zero, List.set_cons_succ]
      refine ordx_load1 (o := ⟨some 20, _, _, _, _, _⟩) rfl rfl 24 (.tmp 19) rfl g1 k rfl na64 _ _ (.int .u64 (c.getD k 0)) (fun W hS => hS.get 3 rfl) (us_get _ _ (by rw [lc]; omega)) ?_
      try simp only [Act.put, List.setIfInBounds_toArray, List.set_cons_zero, List.set_cons_succ]
      refine ordx_quiet (o := ⟨some 21, _, _, _, _, _⟩) (v := (.int .i64 (↑k))) rfl rfl (fun _ _ => rfl) ?_
      try simp only [Act.put, List.setIfInBounds_toArray, List.set_cons_zero, List.set_cons_succ]
      refine ordx_quiet (o := ⟨some 22, _, _, _, _, _⟩) (v := (.pointer (some ⟨g3, k, none⟩))) rfl rfl (fun _ _ => by go_simp) ?_
      try simp only [Act.put, List.setIfInBounds_toArray, List.set_cons_zero, List.set_cons_succ]
      refine ordx_load1 (o := ⟨some 23, _, _, _, _, _⟩) rfl rfl 24 (.tmp 22) rfl g3 k rfl na64 _ _ (.int .u64 (primeL.getD k 0)) (fun W hS => hS.get 1 rfl) (us_get _ _ (by rw [primeL_len]; omega)) ?_
      try simp only [Act.put, List.setIfInBounds_toArray, List.set_cons_zero, List.set_cons_succ]
      refine ordx_quiet (o := ⟨some 24, _, _, _, _, _⟩) (v := (.int .u64 o)) rfl rfl (fun _ _ => rfl) ?_
      try simp only [Act.put, List.setIfInBounds_toArray, List.set_cons_zero, List.set_cons_succ]
      refine ordx_quiet (o := ⟨some 25, _, _, _, _, _⟩) (v := (.int .u64 (IntKind.u64.wrap (primeL.getD k 0 + o)))) rfl rfl (fun _ _ => by go_simp) ?_
      try simp only [Act.put, List.setIfInBounds_toArray, List.set_cons_zero, List.set_cons_succ]
      refine ordx_call_ext (o := ⟨some 26, _, _, _, _, _⟩) rfl rfl 59 [(.tmp 20), (.tmp 25), (.const (.int .u64 0))] _ rfl [(.int .u64 (c.getD k 0)), (.int .u64 (IntKind.u64.wrap (primeL.getD k 0 + o))), (.int .u64 0)] rfl (.tuple #[.int .u64 (sbL (c.getD k 0) (IntKind.u64.wrap (primeL.getD k 0 + o))), .int .u64 (sbH (c.getD k 0) (IntKind.u64.wrap (primeL.getD k 0 + o)))]) (sub64_call _ _ (bc.out _ kl).1 (bc.out _ kl).2 (wrap_bd _).1 (wrap_bd _).2) ?_
      try simp only [Act.put, List.setIfInBounds_toArray, List.set_cons_zero, List.set_cons_succ]
      refine ordx_quiet (o := ⟨some 16, _, _, _, _, _⟩) (v := (.tuple #[.int .u64 (sbL (c.getD k 0) (IntKind.u64.wrap (primeL.getD k 0 + o))), .int .u64 (sbH (c.getD k 0) (IntKind.u64.wrap (primeL.getD k 0 + o)))])) rfl rfl (fun _ _ => rfl) ?_
      try simp only [Act.put, List.setIfInBounds_toArray, List.set_cons_zero, List.set_cons_succ]
      refine ordx_quiet (o := ⟨some 27, _, _, _, _, _⟩) (v := (.int .u64 (sbL (c.getD k 0) (IntKind.u64.wrap (primeL.getD k 0 + o))))) rfl rfl (fun _ _ => by go_simp) ?_
      try simp only [Act.put, List.setIfInBounds_toArray, List.set_cons_zero, List.set_cons_succ]
      refine ordx_quiet (o := ⟨some 28, _, _, _, _, _⟩) (v := (.int .u64 (sbH (c.getD k 0) (IntKind.u64.wrap (primeL.getD k 0 + o))))) rfl rfl (fun _ _ => by go_simp) ?_
      try simp only [Act.put, List.setIfInBounds_toArray, List.set_cons_zero, List.set_cons_succ]
      refine ordx_quiet (o := ⟨some 7, _, _, _, _, _⟩) (v := (.int .u64 (sbL (c.getD k 0) (IntKind.u64.wrap (primeL.getD k 0 + o))))) rfl rfl (fun _ _ => rfl) ?_
      try simp only [Act.put, List.setIfInBounds_toArray, List.set_cons_zero, List.set_cons_succ]
      refine ordx_quiet (o := ⟨some 4, _, _, _, _, _⟩) (v := (.int .u64 (sbH (c.getD k 0) (IntKind.u64.wrap (primeL.getD k 0 + o))))) rfl rfl (fun _ _ => rfl) ?_
      try simp only [Act.put, List.setIfInBounds_toArray, List.set_cons_zero, List.set_cons_succ]
      refine ordx_nil ?_
      generalize hd : sbL (c.getD k 0) (IntKind.u64.wrap (primeL.getD k 0 + o)) = d
      generalize hs : sbH (c.getD k 0) (IntKind.u64.wrap (primeL.getD k 0 + o)) = s
      have Hd := hide hd; clear hd
      have Hs := hide hs; clear hs
      simp only [Exit.then]
      go_wp2_with ((with_reducible show wpList _ _ _ (⟨none, .store 24 (.tmp 33) (.tmp 31), _, _, _, _⟩ :: _) _ _); refine wpList_store_st (o := ⟨none, _, _, _, _, _⟩) rfl 24 (.tmp 33) (.tmp 31) rfl g5 k rfl ([(.int .u64 (bits .and .u64 d 72057594037927935))]) rfl 1 sz64 (by first | omega | (simp; done) | (simp; omega)) st 0 _ _ rfl (by simp only [us_len, Lb.out, List.length_cons, List.length_nil]; omega) (by intro x hx; simp at hx; subst hx; rfl) (us (b.set k (bits .and .u64 d 72057594037927935))) (put_us _ _ _ (by rw [Lb.out]; omega)) ?_; clear st; intro w_0 st)
      go_wp2_with fail
      go_roundw
      case rel =>
        refine ⟨k + 1, by omega, by go_num, ?_, ?_⟩
        · rw [strT, Hq.out]; simp only [Hs.out]
        · rw [strT, Hq.out]
          simp only
          have e := and_mask (c.getD k 0 - IntKind.u64.wrap (primeL.getD k 0 + o)) 56 (by omega)
          rw [show (c.getD k 0 - IntKind.u64.wrap (primeL.getD k 0 + o)) % 18446744073709551616 = d from Hd.out] at e
          rw [show (c.getD k 0 - IntKind.u64.wrap (primeL.getD k 0 + o)) % 72057594037927936 = bits .and .u64 d 72057594037927935 from e.symm]
          exact st
      case measure => simp [intOf]; omega
    · have : k = 8 := by omega
      subst this
      rw [show ((8 : Nat) : Int) = 8 from rfl]
      go_wp2_with (first
        | ((with_reducible show wpList _ _ _ (⟨some 38, _, _, _, _, _⟩ :: _) _ _); refine wpList_load_st (o := ⟨some 38, _, _, _, _, _⟩) rfl 27 (.tmp 1) rfl g1 0 rfl 8 aggE st 3 _ _ (AG (us c)) rfl (by first | omega | (simp; done) | (simp; omega)) (cut_all _ 8 (by first | omega | (simp; done) | (simp; omega))) ?_)
        | ((with_reducible show wpList _ _ _ (⟨some 39, _, _, _, _, _⟩ :: _) _ _); refine wpList_load_st (o := ⟨some 39, _, _, _, _, _⟩) rfl 27 (.tmp 5) rfl g5 0 rfl 8 aggE st 0 _ _ (AG (us b)) rfl (by first | omega | (simp; done) | (simp; omega)) (cut_all _ 8 (by first | omega | (simp; done) | (simp; omega))) ?_))
      refine (select_any (wrap64 (IntKind.u64.wrap (1 - o))) c b (by first | omega | (simp; done) | (simp; omega)) lb _).mono ?_
      rintro e w40 ⟨rfl, hb⟩
      replace st := st.call hb; clear hb
      go_wp2_with ((with_reducible show wpList _ _ _ (⟨none, .store 27 (.tmp 2) (.tmp 40), _, _, _, _⟩ :: _) _ _); refine wpList_store_st (o := ⟨none, _, _, _, _, _⟩) rfl 27 (.tmp 2) (.tmp 40) rfl g2 0 rfl (us (selF (wrap64 (IntKind.u64.wrap (1 - o))) c b)) rfl 8 aggE.size (by first | omega | (simp; done) | (simp; omega)) st 2 _ _ rfl (by first | omega | (simp; done) | (simp; omega)) (us_one _) (us (selF (wrap64 (IntKind.u64.wrap (1 - o))) c b)) (put_all _ _ 8 (by first | omega | (simp; done) | (simp; omega)) (by first | omega | (simp; done) | (simp; omega))) ?_; clear st; intro w_0 st)
      exact post_st rfl g2 rfl st 2 _ _ rfl 8 aggE (by simp) rfl ⟨by rw [strongF, Hc.out]; simp only [Hq.out]; rfl, st.below⟩
end Go.Proofs.Ytdpongijmmdnoaa
