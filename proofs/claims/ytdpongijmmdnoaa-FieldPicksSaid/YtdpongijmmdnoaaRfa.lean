/- the document's answer: prime, less -/
import Derived.Test.YtdpongijmmdnoaaEe
namespace Go.Proofs.Ytdpongijmmdnoaa
open Go.RowKit FdP FdP.Ch

theorem St.drewN {w0 w : World} {bs : List (Nat × List Value × TypeId)} (h : St w0 w bs) (n : Nat) : St w0 (w.drewN n) bs :=
  ⟨Below.drewN h.below n, fun x hx => ⟨(h.own x hx).1, (h.own x hx).2.drewN n⟩, h.apart⟩

def primeD : List Int := [268435455, 268435455, 268435455, 268435455, 268435455, 268435455, 268435455, 268435455, 268435454, 268435455, 268435455, 268435455, 268435455, 268435455, 268435455, 268435455]
@[simp] theorem primeD_len : primeD.length = 16 := rfl
theorem szI64 : SizeIs Try.prog 3 1 := szI
theorem naInt (W : World) : (isAgg 3).run Try.prog W = .ok false W := by kernel_rfl

set_option maxHeartbeats 1000000 in
theorem rprime_any (w : World) :
    Calls Try.prog 49 #[] w fun e w' => e = .returned (AG (is primeD)) ∧ Below w.heap.size w w' := by
  go_enter Try.func49, Try.ntmps49
  have st := St.start w
  go_wp2_with (first
    | ((with_reducible show wpList _ _ _ (⟨some 0, _, _, _, _, _⟩ :: _) _ _); refine wpList_alloc_st (o := ⟨some 0, _, _, _, _, _⟩) rfl 31 rfl (is zF) zisF st ?_; clear st; intro g0 w0 st)
    | ((with_reducible show wpList _ _ _ (⟨some 1, _, _, _, _, _⟩ :: _) _ _); refine wpList_alloc_st (o := ⟨some 1, _, _, _, _, _⟩) rfl 31 rfl (is zF) zisF st ?_; clear st; intro g1 w1 st))
  go_loopw [2] (fun i wr => ∃ k : Nat, k ≤ 16 ∧ i = .int .i64 k ∧ St w wr [(g1, fillTo 16 (fun _ => .int .i64 268435455) (.int .i64 0) k, 31), (g0, is zF, 31)]) (fun i _ => 16 - (intOf i).toNat)
  case atStart => exact ⟨0, by omega, rfl, st⟩
  case round =>
    obtain ⟨k, hk, rfl, hs⟩ := hrel
    clear st
    have o1 := hs.get 0 rfl
    by_cases hlt : k < 16
    · have hlt' : (k : Int) < 16 := by omega
      have c1 := o1.cell k (by rw [fillTo_len]; exact hlt)
      have f1 := o1.free k
      have S := hide (hs.wrote 0 rfl (cs' := fillTo 16 (fun _ => .int .i64 268435455) (.int .i64 0) (k + 1)) (w1 := wr.setCell ⟨g1, k, none⟩ (.int .i64 268435455)) ⟨rfl, rfl, rfl, by simp, fun j hj => heap_setCell_other wr _ j _ hj⟩ ((fillTo_set 16 (fun _ => .int .i64 268435455) (.int .i64 0) k) ▸ o1.set k (.int .i64 268435455)))
      clear o1 hs
      go_wp2
      go_roundw
      case rel => exact ⟨k + 1, by omega, by go_num, S.out⟩
      case measure => simp [intOf]; omega
    · have : k = 16 := by omega
      subst this
      rw [fillTo_all, fill_rep] at hs
      clear o1
      rw [show ((16 : Nat) : Int) = 16 from rfl]
      go_wp2_with (first
        | ((with_reducible show wpList _ _ _ (⟨none, .store 3 (.tmp 9) _, _, _, _, _⟩ :: _) _ _); refine wpList_store_st (o := ⟨none, _, _, _, _, _⟩) rfl 3 _ _ rfl g1 8 rfl [.int .i64 268435454] rfl 1 szI rfl hs 0 _ _ rfl (by simp) (by intro x hx; simp at hx; subst hx; rfl) (is primeD) rfl ?_; clear hs; intro w2 st)
        | ((with_reducible show wpList _ _ _ (⟨some 10, _, _, _, _, _⟩ :: _) _ _); refine wpList_load_st (o := ⟨some 10, _, _, _, _, _⟩) rfl 31 (.tmp 1) rfl g1 0 rfl 16 aggF st 0 _ _ (AG (is primeD)) rfl (by simp) (cut_all _ 16 (by simp)) ?_)
        | ((with_reducible show wpList _ _ _ (⟨none, .store 31 (.tmp 0) (.tmp 10), _, _, _, _⟩ :: _) _ _); refine wpList_store_st (o := ⟨none, _, _, _, _, _⟩) rfl 31 _ _ rfl g0 0 rfl (is primeD) rfl 16 aggF.size (by simp) st 1 _ _ rfl (by simp) (is_one _) (is primeD) (put_all _ _ 16 (by simp) (by simp)) ?_; clear st; intro w3 st))
      exact post_st rfl g0 rfl st 1 _ _ rfl 16 aggF (by simp) rfl ⟨rfl, st.below⟩

/-- are the digits less, from the highest on -/
def lessT (d p : List Int) : Nat → Bool
  | 0 => false
  | k + 1 => if d.getD k 0 = p.getD k 0 then lessT d p k else decide (d.getD k 0 < p.getD k 0)

set_option maxHeartbeats 1000000 in
theorem less_any (d : List Int) (ld : d.length = 16) (w : World) :
    Calls Try.prog 58 #[AG (is d)] w fun e w' => e = .returned (.bool (lessT d primeD 16)) ∧ Below w.heap.size w w' := by
  go_enter Try.func58, Try.ntmps58
  have st := St.start w
  go_wp2_with ((with_reducible show wpList _ _ _ (⟨some 1, _, _, _, _, _⟩ :: _) _ _); refine wpList_box_st (o := ⟨some 1, _, _, _, _, _⟩) rfl 31 (.tmp 0) rfl (is d) rfl st ?_; clear st; intro g1 w1 st)
  refine (rprime_any _).mono ?_
  rintro e w5 ⟨rfl, hb⟩
  replace st := st.call hb; clear hb
  go_wp2_with (first
    | ((with_reducible show wpList _ _ _ (⟨some 3, _, _, _, _, _⟩ :: _) _ _); refine wpList_alloc_st (o := ⟨some 3, _, _, _, _, _⟩) rfl 31 rfl (is zF) zisF st ?_; clear st; intro g3 w3 st)
    | ((with_reducible show wpList _ _ _ (⟨none, .store 31 (.tmp 3) (.tmp 5), _, _, _, _⟩ :: _) _ _); refine wpList_store_st (o := ⟨none, _, _, _, _, _⟩) rfl 31 _ _ rfl g3 0 rfl (is primeD) rfl 16 aggF.size (by simp) st 0 _ _ rfl (by simp) (is_one _) (is primeD) (put_all _ _ 16 (by simp) (by simp)) ?_; clear st; intro w_0 st))
  go_loopw [4] (fun i wr => ∃ k : Nat, k ≤ 16 ∧ i = .int .i64 ((k : Int) - 1) ∧ Hid (lessT d primeD 16 = lessT d primeD k) ∧ St w wr [(g3, is primeD, 31), (g1, is d, 31)]) (fun i _ => (intOf i + 1).toNat)
  case atStart => exact ⟨16, by omega, rfl, hide rfl, st⟩
  case round =>
    obtain ⟨k, hk, rfl, hq, st'⟩ := hrel
    clear st
    have st := st'; clear st'
    by_cases h0 : k = 0
    · subst h0
      rw [show ((0 : Nat) : Int) - 1 = -1 from rfl]
      have Hq : Hid (lessT d primeD 16 = false) := hide hq.out
      clear hq
      go_wp2
      go_ret
      exact ⟨by rw [Hq.out]; rfl, st.below⟩
    · obtain ⟨j, rfl⟩ : ∃ j, k = j + 1 := ⟨k - 1, by omega⟩
      rw [show ((j + 1 : Nat) : Int) - 1 = (j : Int) by omega]
      have hj0 : (0 : Int) ≤ (j : Int) := by omega
      have hj1 : (j : Int) < 16 := by omega
      have c1 := (st.get 1 rfl).cell_of j (is_get d j (by omega))
      have c2 := (st.get 0 rfl).cell_of j (is_get primeD j (by rw [primeD_len]; omega))
      have hq' := hq.out
      rw [show lessT d primeD (j + 1) = (if d.getD j 0 = primeD.getD j 0 then lessT d primeD j else decide (d.getD j 0 < primeD.getD j 0)) from rfl] at hq'
      generalize hx : d.getD j 0 = x at c1 hq'
      generalize hy : primeD.getD j 0 = y at c2 hq'
      have St' := hide st; clear st
      have Hx := hide hx; have Hy := hide hy; clear hx hy
      by_cases hxy : x = y
      · have q : (x != y) = false := by simpa using hxy
        rw [if_pos hxy] at hq'
        have Hq := hide hq'; clear hq' hq hxy
        go_wp2
        go_quiet (fail)
        go_wp2
        go_roundw
        case rel => exact ⟨j, by omega, by go_num, Hq, St'.out.drewN _⟩
        case measure => simp [intOf]
      · have q : (x != y) = true := by simpa using hxy
        rw [if_neg hxy] at hq'
        have Hq := hide hq'; clear hq' hq hxy
        go_wp2
        go_quiet (fail)
        go_wp2
        go_quiet (fail)
        go_wp2
        go_ret
        exact ⟨by rw [Hq.out]; rfl, ((St'.out.drewN _).drewN _).below⟩
end Go.Proofs.Ytdpongijmmdnoaa
