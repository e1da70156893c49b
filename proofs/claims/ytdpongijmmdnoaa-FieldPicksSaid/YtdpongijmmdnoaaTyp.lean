/- Closed facts of the types. -/
import Derived.Test.YtdpongijmmdnoaaBld
import Derived.Test.YtdpongijmmdnoaaEach
namespace Go.Proofs.Ytdpongijmmdnoaa
open Go.RowKit

theorem aggF : AggSize Try.prog 31 16 := ⟨_, Try.underlying31, rfl, by kernel_rfl⟩
theorem aggR : AggSize Try.prog 23 56 := ⟨_, Try.underlying23, rfl, by kernel_rfl⟩

theorem szI : SizeIs Try.prog 3 1 := by unfold SizeIs; kernel_rfl

def zE : List Int := [0, 0, 0, 0, 0, 0, 0, 0]
def zF : List Int := [0, 0, 0, 0, 0, 0, 0, 0, 0, 0, 0, 0, 0, 0, 0, 0]
@[simp] theorem zE_len : zE.length = 8 := rfl
@[simp] theorem zF_len : zF.length = 16 := rfl
theorem zeroE (W : World) : (zeroValue 27).run Try.prog W = .ok (.agg (us zE).toArray) W := by kernel_rfl
theorem zero8 (W : World) : (zeroValue 25).run Try.prog W = .ok (.agg (us zE).toArray) W := by kernel_rfl
theorem zero64 (W : World) : (zeroValue 24).run Try.prog W = .ok (.int .u64 0) W := by kernel_rfl
theorem zeroF (W : World) : (zeroValue 31).run Try.prog W = .ok (.agg (is zF).toArray) W := by kernel_rfl

theorem zisE : ZeroIs Try.prog 27 (us zE) := .agg zeroE
theorem zis8 : ZeroIs Try.prog 25 (us zE) := .agg zero8
theorem zis64 : ZeroIs Try.prog 24 (us [0]) := .one rfl zero64
theorem zisF : ZeroIs Try.prog 31 (is zF) := .agg zeroF

theorem build_E (l : List Int) (hl : l.length = 8) (W : World) : (Instr.build 27 [((0 : Nat), AG (us l))].toArray).run Try.prog W = .ok (AG (us l)) W := by
  refine run_build_struct zeroE Try.underlying27 (places := #[(0, 8)]) (fun _ => by kernel_rfl) ?_ W
  rw [fill_one (off := 0) (vs := us l) (by simp [hl]) rfl (by simp [hl, zE])]
  simp [Instr.fill, hl, us, zE]

theorem build_E0 (W : World) : (Instr.build 27 ([] : List (Nat × Value)).toArray).run Try.prog W = .ok (AG (us zE)) W :=
  run_build_struct zeroE Try.underlying27 (places := #[(0, 8)]) (fun _ => by kernel_rfl) rfl W
end Go.Proofs.Ytdpongijmmdnoaa
