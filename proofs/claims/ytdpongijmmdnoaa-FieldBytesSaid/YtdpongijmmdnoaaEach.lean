/- field.each: what the array holds, by what the function that is handed in answers. -/
import Derived.Test.YtdpongijmmdnoaaMem
import Derived.Test.YtdpongijmmdnoaaProg
import Derived.Deep.QuietTactic
import Derived.BigQuiet
import Derived.Outline
namespace Go.Proofs.Ytdpongijmmdnoaa
open Go.RowKit

/-- n cells, of which the first k are filled -/
def fillTo (n : Nat) (g : Nat → Value) (z : Value) (k : Nat) : List Value := (List.range n).map fun j => if j < k then g j else z

theorem fillTo_len (n : Nat) (g : Nat → Value) (z : Value) (k : Nat) : (fillTo n g z k).length = n := by simp [fillTo]

theorem fillTo_set (n : Nat) (g : Nat → Value) (z : Value) (k : Nat) : (fillTo n g z k).set k (g k) = fillTo n g z (k + 1) := by
  apply List.ext_getElem
  · simp [fillTo]
  · intro i h1 h2
    simp only [fillTo, List.getElem_set, List.getElem_map, List.getElem_range]
    by_cases hik : k = i
    · subst hik; simp
    · simp only [hik, if_false]
      by_cases hlt : i < k
      · simp [hlt, Nat.lt_succ_of_lt hlt]
      · rw [if_neg hlt, if_neg (by omega)]

theorem fillTo_all (n : Nat) (g : Nat → Value) (z : Value) : fillTo n g z n = (List.range n).map g := by
  apply List.map_congr_left
  intro j hj
  simp [List.mem_range.1 hj]

theorem fillTo_zero (n : Nat) (g : Nat → Value) (z : Value) : fillTo n g z 0 = List.replicate n z := by
  apply List.ext_getElem <;> simp [fillTo]

theorem agg8 : AggSize Try.prog 25 8 := ⟨_, Try.underlying25, rfl, by kernel_rfl⟩
theorem sz8 : SizeIs Try.prog 25 8 := agg8.size
theorem aggE : AggSize Try.prog 27 8 := ⟨_, Try.underlying27, rfl, by kernel_rfl⟩
theorem sz64 : SizeIs Try.prog 24 1 := by unfold SizeIs; kernel_rfl

/-- a limb -/
abbrev U (x : Int) : Value := .int .u64 x

set_option maxHeartbeats 400000 in
theorem each_any (f : FuncId) (caps : Array Value) (l : List Int) (hl : l.length = 8) (w : World)
    (hent : ∀ (args : Array Value) (W : World), (callFunc f args).run Try.prog W = .ok (.enter f args) W)
    (hc : ∀ (i : Nat) (W : World), i < 8 → Below w.heap.size w W →
      Calls Try.prog f (#[.int .i64 i] ++ caps) W fun e w' => e = .returned (.int .u64 (l.getD i 0)) ∧ Below W.heap.size W w') :
    Calls Try.prog 43 #[.func (.func f) #[] caps] w
      fun e w' => e = .returned (AG (us l)) ∧ Below w.heap.size w w' := by
  have Hc := hide hc; clear hc
  have hlu : (List.range 8).map (fun j => U (l.getD j 0)) = us l := by
    match l, hl with
    | [_, _, _, _, _, _, _, _], _ => rfl
  have Hlu := hide hlu; clear hlu
  obtain ⟨g, hg⟩ : ∃ g : Nat → Int, g = fun j => l.getD j 0 := ⟨_, rfl⟩
  have Hg := hide hg
  have hgi : ∀ i, l.getD i 0 = g i := fun i => by rw [hg]
  have Hgi := hide hgi; clear hg hgi
  go_enter Try.func43, Try.ntmps43
  go_wp2
  go_loopw [5] (fun i wr => ∃ k : Nat, k ≤ 8 ∧ i = .int .i64 k ∧ Own wr w.heap.size (List.replicate 8 (U 0)) 25 ∧ Own wr (w.heap.size + 1) (fillTo 8 (fun j => U (g j)) (U 0) k) 25 ∧ Below w.heap.size w wr) (fun i _ => 8 - (intOf i).toNat)
  case atStart =>
    refine ⟨0, by omega, rfl, (Own.new w _ _).alloc _, ?_, ((Below.refl _ _).alloc (Nat.le_refl _) _).alloc (by simp) _⟩
    have := Own.new (w.alloc (.cells (List.replicate 8 (U 0)).toArray 25 (0, 0))) (List.replicate 8 (U 0)) 25
    rw [World.size_alloc] at this
    rw [fillTo_zero]
    exact this
  case round =>
    obtain ⟨k, hk, rfl, h1, h2, hb⟩ := hrel
    by_cases hlt : k < 8
    · have hlt' : (k : Int) < 8 := by omega
      go_wp2_with fail
      refine (Hc.out k wr hlt hb).mono ?_
      rintro e w1 ⟨rfl, hb1⟩
      rw [Hgi.out]
      have h1' := h1.below hb1 h1.lt
      have h2' := h2.below hb1 h2.lt
      have hb' := hb.trans (hb1.mono hb.size)
      have c2 := h2'.cell k (by rw [fillTo_len]; exact hlt)
      have f2 := h2'.free k
      have S := hide ((fillTo_set 8 (fun j => U (g j)) (U 0) k) ▸ h2'.set k (U (g k)))
      have S1 := hide (h1'.set_other ⟨w.heap.size + 1, k, none⟩ (U (g k)) (by simp))
      have S2 := hide (hb'.setCell (p := ⟨w.heap.size + 1, k, none⟩) (by simp) (U (g k)))
      clear h1' h2' hb' h1 h2 hb1 hb Hc
      go_wp2_with fail
      go_roundw
      case rel => exact ⟨k + 1, by omega, by go_num, S1.out, S.out, S2.out⟩
      case measure => simp [intOf]; omega
    · have : k = 8 := by omega
      subst this
      rw [fillTo_all, Hg.out, Hlu.out] at h2
      go_wp2_with (first | refine wpList_load_own rfl 25 _ rfl _ _ rfl 8 agg8 _ _ (AG (us l)) h2 (by simp [hl]) (by rw [List.drop_zero, List.take_of_length_le (by simp [hl])]; rfl) ?_ | (refine wpList_store_own rfl 25 _ _ rfl _ _ rfl (us l) rfl 8 sz8 (by simp [hl]) _ _ h1 (by simp [hl]) (us_one _) ?_; intro w2 hw2 hW2))
      have e8 : List.take 0 (List.replicate 8 (U 0)) ++ us l ++ List.drop (0 + (us l).length) (List.replicate 8 (U 0)) = us l := by simp [hl]
      rw [e8] at hw2
      exact post_own rfl _ rfl _ _ hw2 8 agg8 (by simp [hl]) rfl ⟨rfl, hW2.below hb (Nat.le_refl _)⟩
end Go.Proofs.Ytdpongijmmdnoaa
