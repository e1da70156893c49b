/- field.Bytes, P, Equal: WRITTEN BY gen_byt.py -/
import Derived.Test.YtdpongijmmdnoaaRaw
namespace Go.Proofs.Ytdpongijmmdnoaa
open Go.RowKit

def bytesF (l : List Int) : List Int := rawF (strongF l)
@[simp] theorem rawF_len (l : List Int) : (rawF l).length = 56 := by simp [rawF]
@[simp] theorem bytesF_len (l : List Int) : (bytesF l).length = 56 := by simp [bytesF]
/-- what is newer than something newer -/
theorem Sl.back {w w1 w2 : World} {v : Value} {xs : List Int} (h : Sl w1 w2 v xs) (hw : w.heap.size ≤ w1.heap.size) : Sl w w2 v xs := by
  obtain ⟨g, cap, sp, e, hg, ho⟩ := h
  exact ⟨g, cap, sp, e, by omega, ho⟩
set_option maxHeartbeats 400000 in
theorem bytes_any (l : List Int) (ll : l.length = 8) (bl : Bd l) (w : World) :
    Calls Try.prog 33 #[(AG (us l))] w fun e w' => ∃ v, e = .returned v ∧ Sl w w' v (bytesF l) ∧ Below w.heap.size w w' := by
  go_enter Try.func33, Try.ntmps33
  have st := St.start w
  go_wp2_with (first
    | ((with_reducible show wpList _ _ _ (⟨some 1, _, _, _, _, _⟩ :: _) _ _); refine wpList_box_st (o := ⟨some 1, _, _, _, _, _⟩) rfl 27 (.tmp 0) rfl (us l) rfl st ?_; clear st; intro g1 w1 st)
    | ((with_reducible show wpList _ _ _ (⟨some 3, _, _, _, _, _⟩ :: _) _ _); refine wpList_load_st (o := ⟨some 3, _, _, _, _, _⟩) rfl 27 (.tmp 1) rfl g1 0 rfl 8 aggE st 0 _ _ (AG (us l)) rfl (by first | omega | (simp; done) | (simp; omega)) (cut_all _ 8 (by first | omega | (simp; done) | (simp; omega))) ?_))
  refine (strong_any l (by first | omega | (simp; done) | (simp; omega)) bl _).mono ?_
  rintro e w4 ⟨rfl, hb⟩
  replace st := st.call hb; clear hb
  go_wp2_with fail
  have st0 := st
  refine (raw_any (strongF l) (by first | omega | (simp; done) | (simp; omega)) _).mono ?_
  rintro e w5 ⟨v5, rfl, hs, hb⟩
  replace st := st.call hb; clear hb
  go_wp2_with fail
  go_ret
  exact ⟨_, rfl, hs.back (st0.below.size), st.below⟩
set_option maxHeartbeats 400000 in
theorem p_any  (w : World) :
    Calls Try.prog 29 #[] w fun e w' => ∃ v, e = .returned v ∧ Sl w w' v (rawF primeL) ∧ Below w.heap.size w w' := by
  go_enter Try.func29, Try.ntmps29
  have st := St.start w
  go_wp2_with fail
  refine (prime_any _).mono ?_
  rintro e w1 ⟨rfl, hb⟩
  replace st := st.call hb; clear hb
  go_wp2_with ((with_reducible show wpList _ _ _ (⟨some 2, _, _, _, _, _⟩ :: _) _ _); refine wpList_build (o := ⟨some 2, _, _, _, _, _⟩) rfl 27 [(0, (.tmp 1))] rfl [(0, (AG (us primeL)))] rfl (AG (us primeL)) (build_E primeL (by first | omega | (simp; done) | (simp; omega))) ?_)
  have st0 := st
  refine (raw_any primeL (by first | omega | (simp; done) | (simp; omega)) _).mono ?_
  rintro e w3 ⟨v3, rfl, hs, hb⟩
  replace st := st.call hb; clear hb
  go_wp2_with fail
  go_ret
  exact ⟨_, rfl, hs.back (st0.below.size), st.below⟩
set_option maxHeartbeats 400000 in
theorem equal_any (l m : List Int) (ll : l.length = 8) (lm : m.length = 8) (w : World) :
    Calls Try.prog 22 #[(AG (us l)), (AG (us m))] w fun e w' => e = .returned (.bool (isZF (subF l m))) ∧ Below w.heap.size w w' := by
  go_enter Try.func22, Try.ntmps22
  have st := St.start w
  go_wp2_with (first
    | ((with_reducible show wpList _ _ _ (⟨some 2, _, _, _, _, _⟩ :: _) _ _); refine wpList_box_st (o := ⟨some 2, _, _, _, _, _⟩) rfl 27 (.tmp 0) rfl (us l) rfl st ?_; clear st; intro g2 w2 st)
    | ((with_reducible show wpList _ _ _ (⟨some 3, _, _, _, _, _⟩ :: _) _ _); refine wpList_box_st (o := ⟨some 3, _, _, _, _, _⟩) rfl 27 (.tmp 1) rfl (us m) rfl st ?_; clear st; intro g3 w3 st)
    | ((with_reducible show wpList _ _ _ (⟨some 5, _, _, _, _, _⟩ :: _) _ _); refine wpList_load_st (o := ⟨some 5, _, _, _, _, _⟩) rfl 27 (.tmp 2) rfl g2 0 rfl 8 aggE st 1 _ _ (AG (us l)) rfl (by first | omega | (simp; done) | (simp; omega)) (cut_all _ 8 (by first | omega | (simp; done) | (simp; omega))) ?_)
    | ((with_reducible show wpList _ _ _ (⟨some 6, _, _, _, _, _⟩ :: _) _ _); refine wpList_load_st (o := ⟨some 6, _, _, _, _, _⟩) rfl 27 (.tmp 3) rfl g3 0 rfl 8 aggE st 0 _ _ (AG (us m)) rfl (by first | omega | (simp; done) | (simp; omega)) (cut_all _ 8 (by first | omega | (simp; done) | (simp; omega))) ?_))
  refine (sub_any l m (by first | omega | (simp; done) | (simp; omega)) (by first | omega | (simp; done) | (simp; omega)) _).mono ?_
  rintro e w7 ⟨rfl, hb⟩
  replace st := st.call hb; clear hb
  go_wp2_with fail
  refine (zero_any (subF l m) (by first | omega | (simp; done) | (simp; omega)) (subF_bd _ _) _).mono ?_
  rintro e w8 ⟨rfl, hb⟩
  replace st := st.call hb; clear hb
  go_wp2_with fail
  go_ret
  exact ⟨rfl, st.below⟩

end Go.Proofs.Ytdpongijmmdnoaa
