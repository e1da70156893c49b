/- field.Of -/
import Derived.Test.YtdpongijmmdnoaaByt
namespace Go.Proofs.Ytdpongijmmdnoaa
open Go.RowKit

theorem post2_st {P : Program} {w0 w : World} {bs : List (Nat × List Value × TypeId)} {a : Act} {fn : Func} {R : Ending → World → Prop} {p q : Tmp} {ty : TypeId} (h : fn.results = #[.cell p ty, .tmp q]) (g : Nat)
    (hp : a.tmps.getD p undef = .pointer (some ⟨g, 0, none⟩)) (st : St w0 w bs) (i : Nat) (cs : List Value) (t : TypeId) (hg : bs[i]? = some (g, cs, t)) (n : Nat) (ha : AggSize P ty n) (hn : cs.length = n)
    (u : Value) (hq : a.tmps.getD q undef = u) (hd : a.defers = []) (hR : R (.returned (.tuple #[AG cs, u])) w) : bodyPost P fn R .ret a w := by
  subst hn
  obtain ⟨d, hu, hd', hi⟩ := ha
  refine bodyPost_ret ?_ hd hR
  have hp' : a.tmps[p]?.getD undef = .pointer (some ⟨g, 0, none⟩) := by simpa using hp
  have hq' : a.tmps[q]?.getD undef = u := by simpa using hq
  have := st.get i hg
  simp [results, h, hp', hq', asAddr, run_loadVar_row w g t ty cs.toArray (0, 0) d this hu (by cases d <;> simp_all) (by simpa using hi), AG]

/-- a limb of bytes, from place j on, k bytes of it -/
def limbO (b : List Int) (j : Nat) : Nat → Int
  | 0 => 0
  | k + 1 => bits .or .u64 (limbO b j k) (IntKind.u64.wrap (IntKind.u64.wrap (b.getD (j + k) 0) * 2 ^ (8 * k)))
def ofF (b : List Int) : List Int := tab8 fun i => limbO b (7 * i) 7

set_option maxHeartbeats 1000000 in
theorem ofc_any (i : Nat) (hi : i < 8) (r g off cap : Nat) (b : List Int) (lb : b.length = 56) (w : World)
    (hr : w.cell? ⟨r, 0, none⟩ = some (.slice (some ⟨g, off, none⟩) 56 cap)) (hb : ∀ j, j < 56 → w.cell? ⟨g, off + j, none⟩ = some (.int .u8 (b.getD j 0))) :
    Calls Try.prog 52 #[.int .i64 i, .pointer (some ⟨r, 0, none⟩)] w
      fun e w' => e = .returned (.int .u64 (limbO b (7 * i) 7)) ∧ Below w.heap.size w w' := by
  have Hb := hide hb; clear hb
  go_enter Try.func52, Try.ntmps52
  have w7 : IntKind.i64.wrap (7 * (i : Int)) = 7 * (i : Int) := IntWalk.i64_in _ (by omega)
  go_wp2_with fail
  go_loopw [4, 6] (fun t i' wr => ∃ k : Nat, k ≤ 7 ∧ i' = .int .i64 k ∧ t = .int .u64 (limbO b (7 * i) k) ∧ wr = w) (fun _ i _ => 7 - (intOf i).toNat)
  case atStart => exact ⟨0, by omega, rfl, rfl, rfl⟩
  case round =>
    obtain ⟨k, hk, rfl, rfl, rfl⟩ := hrel
    by_cases hkt : k < 7
    · have hkt' : (k : Int) < 7 := by omega
      have w14 : IntKind.i64.wrap (7 * (i : Int) + (k : Int)) = 7 * (i : Int) + (k : Int) := IntWalk.i64_in _ (by omega)
      have w8 : IntKind.i64.wrap (8 * (k : Int)) = 8 * (k : Int) := IntWalk.i64_in _ (by omega)
      have n14 : (7 * (i : Int) + (k : Int)).toNat = 7 * i + k := by omega
      have b14 : 0 ≤ 7 * (i : Int) + (k : Int) := by omega
      have c14 : 7 * (i : Int) + (k : Int) < 56 := by omega
      have cc := Hb.out (7 * i + k) (by omega)
      generalize hx : b.getD (7 * i + k) 0 = x at cc
      have Hx := hide hx; clear hx
      generalize ho : limbO b (7 * i) k = o
      have Ho := hide ho; clear ho
      go_wp2_with fail
      go_roundw
      case rel => exact ⟨k + 1, by omega, by go_num, by rw [limbO, Ho.out, Hx.out], trivial⟩
      case measure => simp [intOf]; omega
    · have : k = 7 := by omega
      subst this
      generalize ho : limbO b (7 * i) 7 = o
      go_wp2_with fail
      go_ret
      exact ⟨by rw [ho]; rfl, Below.refl _ _⟩

theorem naS (W : World) : (isAgg 47).run Try.prog W = .ok false W := by kernel_rfl
@[simp] theorem ofF_len (b : List Int) : (ofF b).length = 8 := tab8_len _
/-- the bytes that a slice shows -/
def Rd (w : World) (g off : Nat) (b : List Int) : Prop := ∀ j, j < b.length → w.cell? ⟨g, off + j, none⟩ = some (.int .u8 (b.getD j 0))
theorem Rd.below {w w' : World} {g off : Nat} {b : List Int} (h : Rd w g off b) (hb : Below w.heap.size w w') : Rd w' g off b := fun j hj =>
  (World.cell?_of_block (hb.block g (World.block_lt_of_cell? w ⟨g, off + j, none⟩ (h j hj)))).trans (h j hj)
theorem Own.rd {w : World} {g : Nat} {b : List Int} {sp : List Value} {T : TypeId} (h : Own w g (ys b ++ sp) T) : Rd w g 0 b := fun j hj => by
  rw [Nat.zero_add]
  refine h.cell_of j ?_
  rw [List.getElem?_append_left (by simpa using hj)]
  exact ys_get b j hj

set_option maxHeartbeats 1000000 in
theorem of_any (g off cap : Nat) (b : List Int) (lb : b.length = 56) (w : World) (hr : Rd w g off b) :
    Calls Try.prog 26 #[.slice (some ⟨g, off, none⟩) 56 cap] w
      fun e w' => e = .returned (.tuple #[AG (us (ofF b)), .int .i64 0]) ∧ Below w.heap.size w w' := by
  have Hr := hide hr; clear hr
  go_enter Try.func26, Try.ntmps26
  have st := St.start w
  go_wp2_with (first
    | ((with_reducible show wpList _ _ _ (⟨some 1, _, _, _, _, _⟩ :: _) _ _); refine wpList_box_st (o := ⟨some 1, _, _, _, _, _⟩) rfl 47 (.tmp 0) rfl [.slice (some ⟨g, off, none⟩) 56 cap] rfl st ?_; clear st; intro g1 w1 st)
    | ((with_reducible show wpList _ _ _ (⟨some 2, _, _, _, _, _⟩ :: _) _ _); refine wpList_alloc_st (o := ⟨some 2, _, _, _, _, _⟩) rfl 27 rfl (us zE) zisE st ?_; clear st; intro g2 w2 st)
    | ((with_reducible show wpList _ _ _ (⟨some 4, _, _, _, _, _⟩ :: _) _ _); refine wpList_load1_st (o := ⟨some 4, _, _, _, _, _⟩) rfl 47 (.tmp 1) rfl g1 0 rfl naS st 1 _ _ (.slice (some ⟨g, off, none⟩) 56 cap) rfl rfl ?_))
  refine (each_any 52 #[.pointer (some ⟨g1, 0, none⟩)] (ofF b) (ofF_len b) _ (fun _ _ => enters _ _ _ _ Try.func52 rfl (by kernel_rfl)) (fun i W hi hW => (tab8_get _ i hi) ▸ ofc_any i hi g1 g off cap b lb W (((st.call hW).get 1 rfl).cell_of 0 rfl) (fun j hj => (Hr.out.below (st.call hW).below) j (by omega)))).mono ?_
  rintro e w9 ⟨rfl, hb⟩
  replace st := st.call hb; clear hb
  go_wp2_with (first
    | ((with_reducible show wpList _ _ _ (⟨some 10, _, _, _, _, _⟩ :: _) _ _); refine wpList_build (o := ⟨some 10, _, _, _, _, _⟩) rfl 27 [(0, (.tmp 9))] rfl [(0, AG (us (ofF b)))] rfl (AG (us (ofF b))) (build_E (ofF b) (by simp)) ?_)
    | ((with_reducible show wpList _ _ _ (⟨none, .store 27 (.tmp 2) (.tmp 10), _, _, _, _⟩ :: _) _ _); refine wpList_store_st (o := ⟨none, _, _, _, _, _⟩) rfl 27 (.tmp 2) (.tmp 10) rfl g2 0 rfl (us (ofF b)) rfl 8 aggE.size (by simp) st 0 _ _ rfl (by simp) (us_one _) (us (ofF b)) (put_all _ _ 8 (by simp) (by simp)) ?_; clear st; intro w_0 st))
  exact post2_st rfl g2 rfl st 0 _ _ rfl 8 aggE (by simp) _ rfl rfl ⟨rfl, st.below⟩

set_option maxHeartbeats 1000000 in
theorem of_bad (a : Option Addr) (n cap : Nat) (hn : n ≠ 56) (w : World) :
    Calls Try.prog 26 #[.slice a n cap] w
      fun e w' => e = .returned (.tuple #[AG (us zE), .int .i64 11]) ∧ Below w.heap.size w w' := by
  have hn' : ¬ ((n : Int) = 56) := by omega
  have hn2 : ((n : Int) == 56) = false := by simpa using hn'
  go_enter Try.func26, Try.ntmps26
  have st := St.start w
  go_wp2_with (first
    | ((with_reducible show wpList _ _ _ (⟨some 1, _, _, _, _, _⟩ :: _) _ _); refine wpList_box_st (o := ⟨some 1, _, _, _, _, _⟩) rfl 47 (.tmp 0) rfl [.slice a n cap] rfl st ?_; clear st; intro g1 w1 st)
    | ((with_reducible show wpList _ _ _ (⟨some 2, _, _, _, _, _⟩ :: _) _ _); refine wpList_alloc_st (o := ⟨some 2, _, _, _, _, _⟩) rfl 27 rfl (us zE) zisE st ?_; clear st; intro g2 w2 st)
    | ((with_reducible show wpList _ _ _ (⟨some 4, _, _, _, _, _⟩ :: _) _ _); refine wpList_load1_st (o := ⟨some 4, _, _, _, _, _⟩) rfl 47 (.tmp 1) rfl g1 0 rfl naS st 1 _ _ (.slice a n cap) rfl rfl ?_)
    | ((with_reducible show wpList _ _ _ (⟨some 7, _, _, _, _, _⟩ :: _) _ _); refine wpList_build (o := ⟨some 7, _, _, _, _, _⟩) rfl 27 [] rfl [] rfl (AG (us zE)) build_E0 ?_)
    | ((with_reducible show wpList _ _ _ (⟨none, .store 27 (.tmp 2) (.tmp 7), _, _, _, _⟩ :: _) _ _); refine wpList_store_st (o := ⟨none, _, _, _, _, _⟩) rfl 27 (.tmp 2) (.tmp 7) rfl g2 0 rfl (us zE) rfl 8 aggE.size (by simp) st 0 _ _ rfl (by simp) (us_one _) (us zE) (put_all _ _ 8 (by simp) (by simp)) ?_; clear st; intro w_0 st))
  exact post2_st rfl g2 rfl st 0 _ _ rfl 8 aggE (by simp) _ rfl rfl ⟨rfl, st.below⟩
end Go.Proofs.Ytdpongijmmdnoaa
