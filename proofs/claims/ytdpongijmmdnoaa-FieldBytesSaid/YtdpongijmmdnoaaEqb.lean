/- chicorylaw01.Bytes, slices.Equal: are two slices of bytes the same -/
import Derived.Test.YtdpongijmmdnoaaEe
namespace Go.Proofs.Ytdpongijmmdnoaa
open Go.RowKit FdP FdP.Ch

/-- a slice value whose bytes are xs -/
def Sv (w : World) (v : Value) (xs : List Int) : Prop :=
  ∃ (a : Option Addr) (cap : Nat), v = .slice a xs.length cap ∧ (0 < xs.length → ∃ g off, a = some ⟨g, off, none⟩ ∧ Rd w g off xs)
theorem Sv.below {w w' : World} {v : Value} {xs : List Int} (h : Sv w v xs) (hb : Below w.heap.size w w') : Sv w' v xs := by
  obtain ⟨a, cap, e, h⟩ := h
  exact ⟨a, cap, e, fun hx => by obtain ⟨g, off, ea, hr⟩ := h hx; exact ⟨g, off, ea, hr.below hb⟩⟩
theorem Sl.sv {w w' : World} {v : Value} {xs : List Int} (h : Sl w w' v xs) : Sv w' v xs := by
  obtain ⟨g, cap, sp, e, _, ho⟩ := h
  exact ⟨_, cap, e, fun _ => ⟨g, 0, rfl, ho.rd⟩⟩
theorem getD_ext {xs zs : List Int} (hl : xs.length = zs.length) (h : ∀ j, j < xs.length → xs.getD j 0 = zs.getD j 0) : xs = zs := by
  apply List.ext_getElem hl
  intro i h1 h2
  have := h i h1
  simpa [List.getD, h1, h2] using this

set_option maxHeartbeats 1000000 in
theorem lawEq_any (xs zs : List Int) (v u : Value) (w : World) (hv : Sv w v xs) (hu : Sv w u zs) (hlt : xs.length ≤ 1000000) :
    Calls Try.prog 28 #[v, u] w fun e w' => e = .returned (.bool (decide (xs = zs))) ∧ Below w.heap.size w w' := by
  obtain ⟨a, cap, rfl, ha⟩ := hv
  obtain ⟨b, cap', rfl, hb⟩ := hu
  by_cases hl : xs.length = zs.length
  · by_cases h0 : xs.length = 0
    · have e1 : xs = [] := List.eq_nil_of_length_eq_zero h0
      have e2 : zs = [] := List.eq_nil_of_length_eq_zero (by omega)
      subst e1; subst e2
      clear ha hb hl h0
      go_enter Try.func28, Try.ntmps28
      try simp only [List.length_nil]
      go_wp2_with fail
      go_loopw [5] (fun i wr => i = .int .i64 0 ∧ wr = w) (fun _ _ => 0)
      case atStart => exact ⟨rfl, rfl⟩
      case round =>
        obtain ⟨rfl, rfl⟩ := hrel
        go_wp2
        go_ret
        exact ⟨rfl, Below.refl _ _⟩
    · obtain ⟨g, off, rfl, r1⟩ := ha (by omega)
      obtain ⟨g', off', rfl, r2⟩ := hb (by omega)
      clear ha hb
      rw [← hl]
      have R1 := hide r1; have R2 := hide r2
      clear r1 r2
      have Hl := hide hl; clear hl
      generalize hn : xs.length = n at *
      have Hn := hide hn; clear hn
      have hd : ((n : Int) != (n : Int)) = false := by simp
      go_enter Try.func28, Try.ntmps28
      go_wp2_with fail
      go_loopw [5] (fun i wr => ∃ k : Nat, k ≤ n ∧ i = .int .i64 k ∧ Hid (∀ j, j < k → xs.getD j 0 = zs.getD j 0) ∧ Below w.heap.size w wr) (fun i _ => n - (intOf i).toNat)
      case atStart => exact ⟨0, by omega, rfl, hide (fun j hj => by omega), Below.refl _ _⟩
      case round =>
        obtain ⟨k, hk, rfl, heq, hb⟩ := hrel
        by_cases hlt : k < n
        · have hlt' : (k : Int) < (n : Int) := by omega
          have c1 := (R1.out.below hb) k (by rw [Hn.out]; exact hlt)
          have c2 := (R2.out.below hb) k (by rw [← Hl.out]; exact hlt)
          generalize hx : xs.getD k 0 = x at c1
          generalize hy : zs.getD k 0 = y at c2
          have Hx := hide hx; have Hy := hide hy; clear hx hy
          by_cases hxy : x = y
          · have q : (x != y) = false := by simpa using hxy
            have Hxy := hide hxy; clear hxy
            go_wp2
            go_quiet (fail)
            go_wp2
            go_roundw
            case rel => exact ⟨k + 1, by omega, by go_num, hide (fun j hj => by
              by_cases hjk : j = k
              · subst hjk; rw [Hx.out, Hy.out, Hxy.out]
              · exact heq.out j (by omega)), Below.drewN hb _⟩
            case measure => simp [intOf]; omega
          · have q : (x != y) = true := by simpa using hxy
            have Hxy := hide hxy; clear hxy
            have hne : decide (xs = zs) = false := decide_eq_false (fun e => Hxy.out (by rw [← Hx.out, ← Hy.out, e]))
            have Hne := hide hne; clear hne
            go_wp2
            go_quiet (fail)
            go_wp2
            go_ret
            exact ⟨by rw [Hne.out]; rfl, Below.drewN hb _⟩
        · have : k = n := by omega
          subst this
          have he : decide (xs = zs) = true := decide_eq_true (getD_ext (by rw [Hn.out]; exact Hl.out) (fun j hj => heq.out j (by rw [Hn.out] at hj; exact hj)))
          have He := hide he; clear he
          go_wp2
          go_ret
          exact ⟨by rw [He.out]; rfl, hb⟩
  · have hne : decide (xs = zs) = false := decide_eq_false (fun e => hl (by rw [e]))
    rw [hne]
    clear ha hb hne
    generalize xs.length = n at *
    generalize zs.length = m at *
    have q : ((n : Int) != (m : Int)) = true := by simp; omega
    go_enter Try.func28, Try.ntmps28
    go_wp2
    go_ret
    exact ⟨rfl, Below.refl _ _⟩
end Go.Proofs.Ytdpongijmmdnoaa
