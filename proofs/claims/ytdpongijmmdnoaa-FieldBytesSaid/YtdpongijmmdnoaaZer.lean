/- field.Zero, Equal, raw, Bytes -/
import Derived.Test.YtdpongijmmdnoaaStr
import Derived.Test.YtdpongijmmdnoaaSli
namespace Go.Proofs.Ytdpongijmmdnoaa
open Go.RowKit

theorem fieldE0 (l : List Int) (ll : l.length = 8) (W : World) : (Instr.field 27 (AG (us l)) 0).run Try.prog W = .ok (AG (us l)) W := by
  refine run_field (cs := us l) (off := 0) Try.underlying27 rfl agg8 rfl _ (cut_all _ 8 ?_) W
  simp [ll]

/-- all words, one on the other -/
def orT (l : List Int) : Nat → Int
  | 0 => 0
  | k + 1 => bits .or .u64 (orT l k) (l.getD k 0)
def isZF (l : List Int) : Bool := orT (strongF l) 8 == 0

set_option maxHeartbeats 400000 in
theorem zero_any (l : List Int) (ll : l.length = 8) (bl : Bd l) (w : World) :
    Calls Try.prog 24 #[AG (us l)] w fun e w' => e = .returned (.bool (isZF l)) ∧ Below w.heap.size w w' := by
  go_enter Try.func24, Try.ntmps24
  have st := St.start w
  go_wp2_with (first
    | ((with_reducible show wpList _ _ _ (⟨some 1, _, _, _, _, _⟩ :: _) _ _); refine wpList_box_st (o := ⟨some 1, _, _, _, _, _⟩) rfl 27 (.tmp 0) rfl (us l) rfl st ?_; clear st; intro g1 w1 st)
    | ((with_reducible show wpList _ _ _ (⟨some 6, _, _, _, _, _⟩ :: _) _ _); refine wpList_load_st (o := ⟨some 6, _, _, _, _, _⟩) rfl 27 (.tmp 1) rfl g1 0 rfl 8 aggE st 0 _ _ (AG (us l)) rfl (by simp; omega) (cut_all _ 8 (by simp; omega)) ?_))
  refine (strong_any l ll bl _).mono ?_
  rintro e w7 ⟨rfl, hb⟩
  replace st := st.call hb; clear hb
  have ls : (strongF l).length = 8 := strongF_len l
  generalize hs : strongF l = s at ls
  have Hs := hide hs; clear hs
  go_wp2_with ((with_reducible show wpList _ _ _ (⟨some 8, _, _, _, _, _⟩ :: _) _ _); refine wpList_field (o := ⟨some 8, _, _, _, _, _⟩) rfl 27 (.tmp 7) rfl (AG (us s)) rfl (AG (us s)) (fun W => fieldE0 _ ls W) ?_)
  go_loopw [3, 9] (fun t i wr => ∃ k : Nat, k ≤ 8 ∧ i = .int .i64 k ∧ t = .int .u64 (orT s k) ∧ Below w.heap.size w wr) (fun _ i _ => 8 - (intOf i).toNat)
  case atStart => exact ⟨0, by omega, rfl, rfl, st.below⟩
  case round =>
    obtain ⟨k, hk, rfl, rfl, hb⟩ := hrel
    clear st
    by_cases hlt : k < 8
    · have hlt' : (k : Int) < 8 := by omega
      have ix := fun W => index8 s ls k hlt W
      generalize hx : s.getD k 0 = x at ix
      generalize ho : orT s k = o
      go_wp2
      go_roundw
      case rel => exact ⟨k + 1, by omega, by go_num, by rw [orT, ho, hx], hb⟩
      case measure => simp [intOf]; omega
    · have : k = 8 := by omega
      subst this
      generalize ho : orT s 8 = o
      go_wp2
      go_ret
      exact ⟨by rw [isZF, Hs.out, ho]; rfl, hb⟩
end Go.Proofs.Ytdpongijmmdnoaa
