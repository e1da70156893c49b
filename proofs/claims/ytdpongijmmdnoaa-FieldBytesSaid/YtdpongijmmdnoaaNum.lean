/- Words of 64 bits and bytes: what the model's operations are as plain numbers. -/
import Derived.WalkKit
namespace Go.Proofs.Ytdpongijmmdnoaa

theorem and_mask (s : Int) (i : Nat) (hi : i ≤ 64) : bits .and .u64 (s % 18446744073709551616) (2 ^ i - 1) = s % 2 ^ i := by
  have h0 : 0 ≤ s % 18446744073709551616 := Int.emod_nonneg _ (by decide)
  have h1 : s % 18446744073709551616 < 18446744073709551616 := Int.emod_lt_of_pos _ (by decide)
  have := bits_mask .u64 64 (by decide) (fun n a b => by rw [IntKind.wrap_u64]; omega) i hi (s % 18446744073709551616) h0 (by omega)
  rw [this]
  have hd : ((2 : Int) ^ i) ∣ 18446744073709551616 := by
    refine ⟨2 ^ (64 - i), ?_⟩
    rw [← Int.pow_add, show i + (64 - i) = 64 by omega]; rfl
  exact Int.emod_emod_of_dvd s hd

theorem and56 (s : Int) : bits .and .u64 (IntKind.u64.wrap s) 72057594037927935 = s % 72057594037927936 := by
  rw [IntKind.wrap_u64]; exact and_mask s 56 (by omega)

end Go.Proofs.Ytdpongijmmdnoaa
