/- chicorylaw04.awake -/
import Derived.Test.YtdpongijmmdnoaaPlz
namespace Go.Proofs.Ytdpongijmmdnoaa
open Go.RowKit FdP FdP.Ch

theorem one_E : E (intF 1) 1 := by have := int_E 1 (by omega) (by omega); rwa [z_one] at this
theorem minus_E : E (intF (-1)) (-1) := by have := int_E (-1) (by omega) (by omega); rwa [z_neg, z_one] at this
theorem minus_bytes : bytesF (intF (-1)) = rawF (dig (P - 1)) := by
  unfold bytesF
  rw [strong_E minus_E]
  congr 2
theorem minus_b0 : (rawF (dig (P - 1))).getD 0 0 = 254 ∧ (rawF (dig (P - 1))).getD 27 0 = 255 ∧ (rawF (dig (P - 1))).getD 28 0 = 254 := by decide +kernel
theorem awake_zero : isZF (addF (intF (-1)) (intF 1)) = true := by
  rw [zero_law (add_E minus_E one_E)]
  exact decide_eq_true (by grind)

set_option maxHeartbeats 1000000 in
theorem awake_any (w : World) : Calls Try.prog 20 #[] w fun e w' => e = .returned (.bool true) ∧ Below w.heap.size w w' := by
  go_enter Try.func20, Try.ntmps20
  have st := St.start w
  go_wp2_with fail
  refine (int_any (-1) _).mono ?_
  rintro e w2 ⟨rfl, hb⟩
  replace st := st.call hb; clear hb
  go_wp2_with fail
  refine (bytes_any (intF (-1)) (by simp) (intF_bd _) _).mono ?_
  rintro e w3 ⟨v3, rfl, ⟨g, cap, sp, rfl, hg, ho⟩, hb⟩
  replace st := st.add hb hg ho; clear hb hg ho
  rw [minus_bytes] at st ⊢
  have hl : (rawF (dig (P - 1))).length = 56 := rawF_len _
  have hrd := (st.get 0 rfl).rd
  have c0 := hrd 0 (by rw [hl]; omega)
  have c27 := hrd 27 (by rw [hl]; omega)
  have c28 := hrd 28 (by rw [hl]; omega)
  rw [minus_b0.1] at c0
  rw [minus_b0.2.1] at c27
  rw [minus_b0.2.2] at c28
  rw [hl]
  clear hrd hl
  replace st := st.tail
  go_wp2_with fail
  refine (int_any (-1) _).mono ?_
  rintro e w25 ⟨rfl, hb⟩
  replace st := st.call hb; clear hb
  go_wp2_with fail
  refine (int_any 1 _).mono ?_
  rintro e w26 ⟨rfl, hb⟩
  replace st := st.call hb; clear hb
  go_wp2_with fail
  refine (add_any (intF (-1)) (intF 1) (by simp) (by simp) _).mono ?_
  rintro e w27 ⟨rfl, hb⟩
  replace st := st.call hb; clear hb
  go_wp2_with fail
  refine (zero_any (addF (intF (-1)) (intF 1)) (by simp) (addF_bd _ _) _).mono ?_
  rintro e w28 ⟨rfl, hb⟩
  replace st := st.call hb; clear hb
  rw [awake_zero]
  go_wp2_with fail
  go_ret
  exact ⟨rfl, st.below⟩
end Go.Proofs.Ytdpongijmmdnoaa
