/- slices.Backward of ints: its closure hands the elements on, the last one first. -/
import Derived.Test.YtpapfkihjhhjkaaGreatProg
import Derived.Test.YtpapfkihjhhjkaaGreatJ6
import Derived.Shelf.Abstract
import Derived.OwnWalkIn
import Derived.TacticsInMore
import Derived.LoopNIn
import Derived.LoopIn
set_option linter.unusedSimpArgs false
set_option linter.unusedVariables false
namespace Go.Proofs.YtpapfkihjhhjkaaGreat
open Go.RowKit Go.Shelf

section
attribute [local go_sem] Oper.semAt_some

theorem wide_depth (n : Nat) : (Fence.wide.depth.isSome = true → 1 ≤ n) = True := by simp [Fence.wide]
attribute [local go_sem] wide_depth

set_option maxRecDepth 100000 in
set_option maxHeartbeats 2000000 in
theorem back_in (l bx : Nat) (v : Value) (xs : List Int) (J : Nat → World → Prop) (Jx : World → Prop) (W : World) (hlen : xs.length ≤ 1000000)
 (hm : ∀ k W', J k W' → W'.cell? ⟨bx, 0, none⟩ = some v ∧ IntsW W' v xs)
 (hY : ∀ k W', J k W' → k < xs.length → YieldAt Fence.wide 0 Tryz.prog l #[.int .i64 ((xs.length : Int) - 1 - k), .int .i64 (xs.getD (xs.length - 1 - k) 0)] W' fun e W'' =>
   (e = .returned (.bool true) ∧ J (k + 1) W'') ∨ (e = .returned (.bool false) ∧ Jx W''))
 (h0 : J 0 W) : CallsIn Fence.wide 1 Tryz.prog 90 #[.func (.yield l) #[] #[], .pointer (some ⟨bx, 0, none⟩)] W fun e W' => (∃ v, e = .returned v) ∧ (J xs.length W' ∨ Jx W') := by
 refine callsIn_of_wp Tryz.func90 rfl trivial ?_ rfl
 simp only [Tryz.ntmps90, List.size_toArray, List.length_cons, List.length_nil, Nat.reduceAdd, Nat.reduceSub, Array.replicate_succ, Array.replicate_zero, List.push_toArray, List.append_toArray, List.nil_append, List.cons_append]
 obtain ⟨hb0, ad, cap, rfl, hcs⟩ := hm 0 W h0
 gi_wp2
 gi_loopw [3] (fun i wr => ∃ k : Nat, k ≤ xs.length ∧ i = .int .i64 ((xs.length : Int) - 1 - k) ∧ J k wr)
  (fun i _ => ((intOf i) + 1).toNat)
 case atStart => exact ⟨0, Nat.zero_le _, by simp, h0⟩
 case round =>
  obtain ⟨k, hk, rfl, hJs⟩ := hrel
  obtain ⟨hb, ad', cap', e', hcs'⟩ := hm k wr hJs
  obtain ⟨rfl, _, rfl⟩ : ad = ad' ∧ xs.length = xs.length ∧ cap = cap' := by simpa using e'
  by_cases hlt : k < xs.length
  ·obtain ⟨m, hmk⟩ : ∃ m : Nat, xs.length = m + 1 + k := ⟨xs.length - 1 - k, by omega⟩
   have em : (xs.length : Int) - 1 - k = (m : Int) := by omega
   have em2 : xs.length - 1 - k = m := by omega
   obtain ⟨fn, tmps, assign, body, hy, hR⟩ := hY _ wr hJs hlt
   obtain ⟨g, off, rfl, hc⟩ := hcs' (by omega)
   have hcx := hc m (by omega)
   rw [em, em2] at hy
   rw [em]
   have hm0 : (0 : Int) ≤ (m : Int) := by omega
   have hmL : m < xs.length := by omega
   obtain ⟨z, hz⟩ : ∃ z, xs.getD m 0 = z := ⟨_, rfl⟩
   rw [hz] at hy hcx
   clear hz hc hcs hcs' hm e' hY
   have hmk' := hide hmk
   clear hmk
   gi_wp2
   refine hR.mono ?_
   rintro e W3 (⟨rfl, hJ3⟩ | ⟨rfl, hJx3⟩)
   ·gi_wp2
    go_roundw
    case rel =>
     have hmk : xs.length = m + 1 + k := hmk'
     exact ⟨k + 1, by omega, by congr 1; push_cast; omega, hJ3⟩
    case measure => simp [intOf]
   ·gi_wp2
    refine bodyPost_ret (results_none rfl _ _ _) rfl ?_
    exact ⟨⟨_, rfl⟩, .inr hJx3⟩
  ·obtain rfl : k = xs.length := by omega
   have em : (xs.length : Int) - 1 - (xs.length : Nat) = -1 := by omega
   rw [em]
   gi_wp2
   go_end0
   exact ⟨⟨_, rfl⟩, .inl hJs⟩
theorem isBack : IsBack Tryz.prog 90 := ⟨enters_of Tryz.func90 (by kernel_rfl) rfl, fun l bx v xs J Jx W h1 h2 h3 h4 => back_in l bx v xs J Jx W h1 h2 h3 h4⟩
end
end Go.Proofs.YtpapfkihjhhjkaaGreat
