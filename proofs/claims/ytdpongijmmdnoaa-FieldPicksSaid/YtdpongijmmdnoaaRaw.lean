/- field.raw, Bytes -/
import Derived.Test.YtdpongijmmdnoaaZer
namespace Go.Proofs.Ytdpongijmmdnoaa
open Go.RowKit

/-- the first k bytes of a limb -/
def rawX (x : Int) : Nat → List Int
  | 0 => []
  | k + 1 => rawX x k ++ [x / 2 ^ (8 * k) % 256]
def rawO (l : List Int) : Nat → List Int
  | 0 => []
  | i + 1 => rawO l i ++ rawX (l.getD i 0) 7
def rawF (l : List Int) : List Int := rawO l 8
@[simp] theorem rawX_len (x : Int) (k : Nat) : (rawX x k).length = k := by
  induction k with
  | zero => rfl
  | succ k ih => simp [rawX, ih]
@[simp] theorem rawO_len (l : List Int) (i : Nat) : (rawO l i).length = 7 * i := by
  induction i with
  | zero => rfl
  | succ i ih => simp [rawO, ih]; omega

set_option maxHeartbeats 1000000 in
theorem raw_any (l : List Int) (ll : l.length = 8) (w : World) :
    Calls Try.prog 54 #[AG (us l)] w fun e w' => ∃ v, e = .returned v ∧ Sl w w' v (rawF l) ∧ Below w.heap.size w w' := by
  go_enter Try.func54, Try.ntmps54
  have st := St.start w
  go_wp2_with (first
    | ((with_reducible show wpList _ _ _ (⟨some 1, _, _, _, _, _⟩ :: _) _ _); refine wpList_box_st (o := ⟨some 1, _, _, _, _, _⟩) rfl 27 (.tmp 0) rfl (us l) rfl st ?_; clear st; intro g1 w1 st)
    | ((with_reducible show wpList _ _ _ (⟨some 8, _, _, _, _, _⟩ :: _) _ _); refine wpList_load_st (o := ⟨some 8, _, _, _, _, _⟩) rfl 25 (.tmp 7) rfl g1 0 rfl 8 agg8 st 0 _ _ (AG (us l)) rfl (by simp; omega) (cut_all _ 8 (by simp; omega)) ?_))
  go_loopw [3, 9] (fun t i wr => ∃ k : Nat, k ≤ 8 ∧ i = .int .i64 k ∧ Bs w wr [(g1, us l, 27)] t (rawO l k)) (fun _ i _ => 8 - (intOf i).toNat)
  case atStart => exact ⟨0, by omega, rfl, Bs.start st⟩
  case round =>
    obtain ⟨i, hi, rfl, hs⟩ := hrel
    clear st
    by_cases hlt : i < 8
    · have hlt' : (i : Int) < 8 := by omega
      have ix := fun W => index8 l ll i hlt W
      generalize hx : l.getD i 0 = x at ix
      have Hx := hide hx; clear hx
      go_wp2_with fail
      clear ix
      go_loopw [3, 12] (fun t i' wr => ∃ k : Nat, k ≤ 7 ∧ i' = .int .i64 k ∧ Bs w wr [(g1, us l, 27)] t (rawO l i ++ rawX x k)) (fun _ i _ => 7 - (intOf i).toNat)
      case atStart => exact ⟨0, by omega, rfl, by simpa [rawX] using hs⟩
      case round =>
        obtain ⟨k, hk, rfl, hb⟩ := hrel
        clear hs
        by_cases hkt : k < 7
        · have hkt' : (k : Int) < 7 := by omega
          have w8 : IntKind.i64.wrap (8 * (k : Int)) = 8 * (k : Int) := IntWalk.i64_in _ (by omega)
          go_wp2_with (first
            | ((with_reducible show wpList _ _ _ (⟨some 21, _, _, _, _, _⟩ :: _) _ _); refine wpList_byte (o := ⟨some 21, _, _, _, _, _⟩) rfl (.tmp 20) rfl _ rfl hb ?_; clear hb; intro g w21 hb)
            | ((with_reducible show wpList _ _ _ (⟨some 22, _, _, _, _, _⟩ :: _) _ _); refine wpList_push (o := ⟨some 22, _, _, _, _, _⟩) rfl (.tmp 15) (.tmp 21) rfl rfl _ g rfl hb (by simp) (by simp; omega) ?_; clear hb; intro v' w22 hb))
          go_roundw
          case rel => exact ⟨k + 1, by omega, by go_num, by rw [rawX, ← List.append_assoc]; exact hb⟩
          case measure => simp [intOf]; omega
        · have : k = 7 := by omega
          subst this
          go_wp2_with fail
          go_roundw
          case rel => exact ⟨i + 1, by omega, by go_num, by rw [rawO, Hx.out]; exact hb⟩
          case measure => simp [intOf]; omega
    · have : i = 8 := by omega
      subst this
      go_wp2_with fail
      go_ret
      exact ⟨_, rfl, hs.end (by simp), hs.st.below⟩

theorem wrap_tab_bd (g : Nat → Int) (h : ∀ i, 0 ≤ g i ∧ g i < 18446744073709551616) : Bd (tab8 g) := by
  intro x hx
  simp only [tab8, List.mem_map] at hx
  obtain ⟨i, _, rfl⟩ := hx
  exact h i
theorem subF_bd (a b : List Int) : Bd (subF a b) := carryF_bd _ (wrap_tab_bd _ fun _ => wrap_bd _)
theorem addF_bd (a b : List Int) : Bd (addF a b) := carryF_bd _ (wrap_tab_bd _ fun _ => wrap_bd _)
theorem negF_bd (a : List Int) : Bd (negF a) := subF_bd _ _
theorem limbT_bd (ns : List Int) (k : Nat) : Bd (limbT ns k).1 := by
  induction k with
  | zero => intro x hx; simp [limbT, zE] at hx; omega
  | succ k ih => exact bd_set ih _ _ (by omega)
theorem endL_bd (p : List Int) (x : Int) (lp : p.length = 8) (h : Bd p) : Bd (endL p x) := by
  have g := fun i (hi : i < 8) => bd_get h i (by rw [lp]; exact hi)
  intro y hy
  simp only [endL, List.mem_cons, List.not_mem_nil, or_false] at hy
  rcases hy with rfl | rfl | rfl | rfl | rfl | rfl | rfl | rfl
  · exact wrap_bd _
  · exact wrap_bd _
  · exact g 2 (by omega)
  · exact g 3 (by omega)
  · exact wrap_bd _
  · exact wrap_bd _
  · exact g 6 (by omega)
  · exact g 7 (by omega)
theorem mulF_bd (a b : List Int) : Bd (mulF a b) := by
  unfold mulF
  generalize foldT (mulO a b 8) 7 = q
  exact carryF_bd _ (endL_bd _ _ (limbT_len q 8) (limbT_bd q 8))
theorem intL_bd (m : Int) (h0 : 0 ≤ m) (h1 : m < 18446744073709551616) : Bd (intL m) := by
  have e : bits .and .u64 m 72057594037927935 = m % 72057594037927936 := by
    have := and_mask m 56 (by omega); rwa [Int.emod_eq_of_lt h0 h1] at this
  intro x hx
  simp only [intL, List.mem_cons, List.not_mem_nil, or_false, e] at hx
  omega
theorem intF_bd (n : Int) : Bd (intF n) := by
  unfold intF
  split
  · exact negF_bd _
  · exact intL_bd _ (wrap_bd _).1 (wrap_bd _).2
theorem strongF_bd_c (l : List Int) (h : Bd l) : Bd (carryF (carryF l)) := carryF_bd _ (carryF_bd _ h)
end Go.Proofs.Ytdpongijmmdnoaa
