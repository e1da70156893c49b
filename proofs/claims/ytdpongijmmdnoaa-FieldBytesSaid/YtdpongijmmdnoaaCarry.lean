/- (field.Element).carry -/
import Derived.Test.YtdpongijmmdnoaaEach
import Derived.Test.YtdpongijmmdnoaaReg
import Derived.Test.YtdpongijmmdnoaaNum
namespace Go.Proofs.Ytdpongijmmdnoaa
open Go.RowKit

/-- the limbs and what goes over, behind k rounds -/
def carryTo (l : List Int) : Nat → List Int × Int
  | 0 => (l, 0)
  | k + 1 => ((carryTo l k).1.set k (((carryTo l k).1.getD k 0 + (carryTo l k).2) % 72057594037927936), ((carryTo l k).1.getD k 0 + (carryTo l k).2) % 18446744073709551616 / 72057594037927936)

/-- what goes over all limbs comes in again -/
def carryEnd (q : List Int × Int) : List Int :=
  let m := q.1.set 0 ((q.1.getD 0 0 + q.2) % 18446744073709551616)
  m.set 4 ((m.getD 4 0 + q.2) % 18446744073709551616)

def carryF (l : List Int) : List Int := carryEnd (carryTo l 8)

theorem carryTo_len (l : List Int) (k : Nat) : (carryTo l k).1.length = l.length := by
  induction k with
  | zero => rfl
  | succ k ih => simp [carryTo, ih]
@[simp] theorem carryF_len (l : List Int) : (carryF l).length = l.length := by simp [carryF, carryEnd, carryTo_len]
theorem set_self {α : Type} (l : List α) (k : Nat) (v u : α) : (l.set k v).set k u = l.set k u := by simp

set_option maxHeartbeats 1000000 in
theorem carry_any (l : List Int) (hl : l.length = 8) (w : World) :
    Calls Try.prog 45 #[AG (us l)] w
      fun e w' => e = .returned (AG (us (carryF l))) ∧ Below w.heap.size w w' := by
  go_enter Try.func45, Try.ntmps45
  go_wp2_with (refine wpList_box_own rfl 27 _ rfl (l.map U) rfl ?_; intro w1 h1 n1)
  have hs1 := n1.size
  go_loopw [3, 5] (fun t i wr => ∃ k : Nat, k ≤ 8 ∧ i = .int .i64 k ∧ t = U (carryTo l k).2 ∧ (carryTo l k).1.length = 8 ∧ Own wr w.heap.size ((carryTo l k).1.map U) 27 ∧ Own wr w1.heap.size (List.replicate 8 (U 0)) 27 ∧ Below w.heap.size w wr) (fun _ i _ => 8 - (intOf i).toNat)
  case atStart =>
    exact ⟨0, by omega, rfl, rfl, hl, h1.alloc _, Own.new w1 (List.replicate 8 (U 0)) _, (n1.below (Below.refl _ _) (Nat.le_refl _)).alloc (by omega) _⟩
  case round =>
    obtain ⟨k, hk, rfl, rfl, hlen, h1, h2, hb⟩ := hrel
    generalize hq : carryTo l k = q at *
    obtain ⟨m, o⟩ := q
    have Hq := hide hq; clear hq
    by_cases hlt : k < 8
    · have hlt' : (k : Int) < 8 := by omega
      obtain ⟨x, hx⟩ : ∃ x, m[k]? = some x := ⟨m[k]'(by simp at hlen; omega), by simp⟩
      have c1 := h1.cell_of k (v := U x) (by simp [hx])
      have f1 := h1.free k
      dsimp only at *
      go_wp2
      go_roundw
      case rel =>
        have e : carryTo l (k + 1) = (m.set k ((x + o) % 72057594037927936), (x + o) % 18446744073709551616 / 72057594037927936) := by
          simp only [carryTo, Hq.out, List.getD, hx, Option.getD_some]
        refine ⟨k + 1, by omega, by go_num, ?_, ?_, ?_, ?_, ?_⟩
        · rw [e, IntKind.wrap_u64]
        · rw [e]; simpa using hlen
        · rw [e, and56]
          have := (h1.set k (U (IntKind.u64.wrap (x + o)))).set k (U ((x + o) % 72057594037927936))
          rw [set_self] at this
          rw [List.map_set]; exact this
        · exact (h2.set_other _ _ (by show w1.heap.size ≠ w.heap.size; omega)).set_other _ _ (by show w1.heap.size ≠ w.heap.size; omega)
        · exact (hb.setCell (p := ⟨w.heap.size, k, none⟩) (Nat.le_refl _) _).setCell (p := ⟨w.heap.size, k, none⟩) (Nat.le_refl _) _
      case measure => simp [intOf]; omega
    · have : k = 8 := by omega
      subst this
      have hne : w1.heap.size ≠ w.heap.size := by omega
      have hle : w.heap.size ≤ w1.heap.size := by omega
      clear hs1
      obtain ⟨m0, m1, m2, m3, m4, m5, m6, m7, rfl⟩ : ∃ a b c d e f g h, m = [a, b, c, d, e, f, g, h] := by
        match m, hlen with
        | [a, b, c, d, e, f, g, h], _ => exact ⟨a, b, c, d, e, f, g, h, rfl⟩
      have c0 := h1.cell_of 0 (v := U m0) rfl
      have f0 := h1.free 0
      go_wp2_with (first
        | (refine wpList_store_own rfl 24 _ _ rfl _ 0 rfl [U (IntKind.u64.wrap (m0 + o))] rfl 1 sz64 rfl _ _ h1 (by simp) (by intro x hx; simp at hx; subst hx; rfl) ?_; intro w3 h3 W3; replace h2 := h2.wrote W3 hne; replace hb := W3.below hb (Nat.le_refl _); have c4 := h3.cell_of 4 (v := U m4) rfl; have f4 := h3.free 4; clear c0 f0)
        | (refine wpList_store_own rfl 24 _ _ rfl _ 4 rfl [U (IntKind.u64.wrap (m4 + o))] rfl 1 sz64 rfl _ _ h3 (by simp) (by intro x hx; simp at hx; subst hx; rfl) ?_; intro w4 h4 W4; replace h2 := h2.wrote W4 hne; replace hb := W4.below hb (Nat.le_refl _); clear c4 f4)
        | (refine wpList_load_own rfl 27 _ rfl _ 0 rfl 8 aggE _ _ _ h4 (by simp) rfl ?_)
        | (refine wpList_store_own rfl 27 _ _ rfl _ 0 rfl [U (IntKind.u64.wrap (m0 + o)), U m1, U m2, U m3, U (IntKind.u64.wrap (m4 + o)), U m5, U m6, U m7] rfl 8 aggE.size rfl _ _ h2 (by simp) (by intro x hx; simp at hx; rcases hx with rfl | rfl | rfl | rfl | rfl | rfl | rfl | rfl <;> rfl) ?_; intro w2 hw2 hW2))
      refine post_own rfl _ rfl _ _ hw2 8 aggE rfl rfl ⟨?_, ?_⟩
      · simp [AG, us, carryF, Hq.out, carryEnd, IntKind.wrap_u64]
      · exact hW2.below hb (by omega)
end Go.Proofs.Ytdpongijmmdnoaa
