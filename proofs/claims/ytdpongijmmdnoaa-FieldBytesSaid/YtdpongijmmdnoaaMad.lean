/- chicorylaw04.Bytes, Made -/
import Derived.Test.YtdpongijmmdnoaaOf
namespace Go.Proofs.Ytdpongijmmdnoaa
open Go.RowKit

set_option maxHeartbeats 1000000 in
theorem lawBytes_any (b : List Int) (lb : b.length = 56) (w : World) :
    Calls Try.prog 41 #[AG (ys b)] w fun e w' => ∃ v, e = .returned v ∧ Sl w w' v b ∧ Below w.heap.size w w' := by
  go_enter Try.func41, Try.ntmps41
  have st := St.start w
  go_wp2_with (first
    | ((with_reducible show wpList _ _ _ (⟨some 1, _, _, _, _, _⟩ :: _) _ _); refine wpList_box_st (o := ⟨some 1, _, _, _, _, _⟩) rfl 23 (.tmp 0) rfl (ys b) rfl st ?_; clear st; intro g1 w1 st; have hb0 := Bs.start st; have o1 := st.get 0 rfl)
    | ((with_reducible show wpList _ _ _ (⟨some 6, _, _, _, _, _⟩ :: _) _ _); refine wpList_app (o := ⟨some 6, _, _, _, _, _⟩) rfl (.tmp 4) (.tmp 5) rfl rfl b ⟨g1, 0, none⟩ 56 (by rw [lb]; rfl) hb0 (by simp) (fun j u hj => by rw [addr_add, Nat.zero_add]; exact o1.cell_of j hj) (by rw [lb]; decide) ?_; clear hb0 o1; intro v' w6 hb))
  go_ret
  exact ⟨_, rfl, hb.end (by simp [lb]), hb.st.below⟩

set_option maxHeartbeats 1000000 in
theorem made_any (b : List Int) (lb : b.length = 56) (w : World) :
    Calls Try.prog 11 #[AG (ys b)] w fun e w' => e = .returned (.tuple #[AG (us (ofF b)), .bool true]) ∧ Below w.heap.size w w' := by
  go_enter Try.func11, Try.ntmps11
  have st := St.start w
  go_wp2_with (first
    | ((with_reducible show wpList _ _ _ (⟨some 1, _, _, _, _, _⟩ :: _) _ _); refine wpList_box_st (o := ⟨some 1, _, _, _, _, _⟩) rfl 23 (.tmp 0) rfl (ys b) rfl st ?_; clear st; intro g1 w1 st)
    | ((with_reducible show wpList _ _ _ (⟨some 2, _, _, _, _, _⟩ :: _) _ _); refine wpList_alloc_st (o := ⟨some 2, _, _, _, _, _⟩) rfl 27 rfl (us zE) zisE st ?_; clear st; intro g2 w2 st)
    | ((with_reducible show wpList _ _ _ (⟨some 7, _, _, _, _, _⟩ :: _) _ _); refine wpList_load_st (o := ⟨some 7, _, _, _, _, _⟩) rfl 23 (.tmp 1) rfl g1 0 rfl 56 aggR st 1 _ _ (AG (ys b)) rfl (by simp; omega) (cut_all _ 56 (by simp; omega)) ?_))
  refine (lawBytes_any b lb _).mono ?_
  rintro e w8 ⟨v8, rfl, ⟨g, cap, sp, rfl, hg, ho⟩, hb⟩
  replace st := st.add hb hg ho; clear hb hg ho
  have hrd := (st.get 0 rfl).rd
  rw [lb]
  go_wp2_with fail
  refine (of_any g 0 cap b lb _ hrd).mono ?_
  rintro e w9 ⟨rfl, hb⟩
  clear hrd
  replace st := (st.call hb).tail; clear hb
  go_wp2_with (first
    | ((with_reducible show wpList _ _ _ (⟨some 4, _, _, _, _, _⟩ :: _) _ _); refine wpList_alloc_st (o := ⟨some 4, _, _, _, _, _⟩) rfl 27 rfl (us zE) zisE st ?_; clear st; intro g4 w4 st)
    | ((with_reducible show wpList _ _ _ (⟨none, .store 27 (.tmp 4) (.tmp 10), _, _, _, _⟩ :: _) _ _); refine wpList_store_st (o := ⟨none, _, _, _, _, _⟩) rfl 27 (.tmp 4) (.tmp 10) rfl g4 0 rfl (us (ofF b)) rfl 8 aggE.size (by simp) st 0 _ _ rfl (by simp) (us_one _) (us (ofF b)) (put_all _ _ 8 (by simp) (by simp)) ?_; clear st; intro w_0 st)
    | ((with_reducible show wpList _ _ _ (⟨some 12, _, _, _, _, _⟩ :: _) _ _); refine wpList_load_st (o := ⟨some 12, _, _, _, _, _⟩) rfl 27 (.tmp 4) rfl g4 0 rfl 8 aggE st 0 _ _ (AG (us (ofF b))) rfl (by simp) (cut_all _ 8 (by simp)) ?_)
    | ((with_reducible show wpList _ _ _ (⟨none, .store 27 (.tmp 2) (.tmp 12), _, _, _, _⟩ :: _) _ _); refine wpList_store_st (o := ⟨none, _, _, _, _, _⟩) rfl 27 (.tmp 2) (.tmp 12) rfl g2 0 rfl (us (ofF b)) rfl 8 aggE.size (by simp) st 1 _ _ rfl (by simp) (us_one _) (us (ofF b)) (put_all _ _ 8 (by simp) (by simp)) ?_; clear st; intro w_1 st))
  exact post2_st rfl g2 rfl st 1 _ _ rfl 8 aggE (by simp) _ rfl rfl ⟨rfl, st.below⟩
end Go.Proofs.Ytdpongijmmdnoaa
