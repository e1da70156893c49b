/- Chapter 13: TwistHomes -/
import Derived.Test.YtohebkkiicbdoaaGreatTwb
import Derived.Test.YtohebkkiicbdoaaGreatOpe
set_option linter.unusedSimpArgs false
set_option linter.unusedVariables false
namespace Go.Proofs.YtohebkkiicbdoaaGreat
open Go.RowKit FdP FdP.Ch
def spOK2 (b : List Int) (n : Int) : Prop := b.length ≤ 57 ∧ 0 ≤ n ∧ n ≤ 3
theorem spP_ex : ∃ f : List Int → Int → G, (∀ b n, spOK2 b n → f b n = sgG b n) ∧ ∀ b n, ¬ spOK2 b n → f b n = 0 := by
  classical
  exact ⟨fun b n => if spOK2 b n then sgG b n else 0, fun b n h => if_pos h, fun b n h => if_neg h⟩
noncomputable def spP : List Int → Int → G := spP_ex.choose
theorem spP_y {b : List Int} {n : Int} (h : spOK2 b n) : spP b n = sgG b n := spP_ex.choose_spec.1 b n h
theorem spP_n {b : List Int} {n : Int} (h : ¬ spOK2 b n) : spP b n = 0 := spP_ex.choose_spec.2 b n h
def tSpots13 : Trans := fun zs Q => match zs with
  | [.agg [.isl .u8 b, .int .i64 n, .isl .u8 c, .int .i64 m]] => (By b ∧ By c) ∧ Q (.tup [.agg [.ob (.pt (spP b n)), .ob (.pt (spP c m))], .agg [.ob (.fpt (spP b n)), .ob (.fpt (spP c m))], .bool (dec (spOK2 b n ∧ spOK2 c m))])
  | _ => False
def twO : Tab := tb_made11 :: []
theorem twO_ok : twO.OK Tryz.prog := tab_cons tb_made11_ok <| tab_nil _
def o_spots13 : Orc := { ans := [(12, oV), (13, .one ⟨.leaf (.agg [.one (.var 0), .one (.var 1)]), 2, []⟩), (14, .two ⟨.tup [.agg [.whole 0 24], .agg [.whole 1 48], .atom (.const (.bool true))], 2, []⟩ ⟨.tup [.agg [.whole 0 24], .agg [.whole 1 48], .atom (.const (.bool false))], 2, []⟩), (19, oV), (20, .one ⟨.leaf (.agg [.one (.var 0), .one (.var 1)]), 2, []⟩), (21, .one ⟨.tup [.agg [.whole 0 24], .agg [.whole 1 48], .atom (.var 2)], 3, []⟩), (25, oA 24), (26, oA 24), (28, oA 48), (29, oA 48), (34, oV)], lps := [], alls := [3] }
def t_spots13 : Tree :=
 .new <|
 .new <|
 .new <|
 .call2 17 [.agg [.one (.var 0), .one (.var 1)]] ([], []) (.tup [.agg [.whole 4 24], .agg [.whole 5 48], .atom (.const (.bool true))]) 2 [] (
 .new <|
 .new <|
 .call 17 [.agg [.one (.var 2), .one (.var 3)]] ([], []) (.tup [.agg [.whole 6 24], .agg [.whole 7 48], .atom (.var 8)]) 3 [] <|
 .new <|
 .new <|
 .ret ([], []) (.tup [.agg [.whole 4 24, .whole 6 24], .agg [.whole 5 48, .whole 7 48], .atom (.var 8)])) (.tup [.agg [.whole 4 24], .agg [.whole 5 48], .atom (.const (.bool false))]) 2 [] <|
 .new <|
 .new <|
 .call 17 [.agg [.one (.var 2), .one (.var 3)]] ([], []) (.tup [.agg [.whole 6 24], .agg [.whole 7 48], .atom (.var 8)]) 3 [] <|
 .new <|
 .new <|
 .ret ([], []) (.tup [.agg [.whole 4 24, .whole 6 24], .agg [.whole 5 48, .whole 7 48], .atom (.const (.bool false))])
theorem c_spots13 : compF Tryz.prog Tryz.f4 o_spots13 (Tryz.f4.body.getD .skip) (symIn [.agg [.one (.var 0), .one (.var 1), .one (.var 2), .one (.var 3)]] Tryz.f4.ntmps 4) = some t_spots13 := by kernel_rfl
theorem g_spots13 : goodC Tryz.prog o_spots13.ords (Tryz.f4.body.getD .skip) = true := by kernel_rfl
def tb_spots13 : FuncId × Trans := (4, tSpots13)
set_option maxRecDepth 100000 in
theorem aw_spots13 : ∀ zs Q, tb_spots13.2 zs Q → bindLs 0 [.agg [.one (.var 0), .one (.var 1), .one (.var 2), .one (.var 3)]] zs fun ae => bif Nat.beq ae.length 4 then AWp Tryz.prog twO Q t_spots13 [] ae else False := by
  intro zs Q h
  replace h : tSpots13 zs Q := h
  unfold tSpots13 at h
  split at h
  case h_2 => exact h.elim
  rename_i b n c m
  obtain ⟨⟨hb, hc⟩, h⟩ := h
  repeat ((conv => whnf) <;> first | with_reducible first | refine wI (by omega) ?_ | refine And.intro rfl ?_ | rfl | refine And.intro ‹_› ?_ | refine cTe ‹_› ?_ | refine cFe ‹_› ?_ | refine cN (cTe ‹_› ?_) | refine cN (cFe ‹_› ?_) | refine cTe rfl ?_ | refine cEq ‹_› ?_ | refine cTt ?_ | refine cNt ?_ | refine cF (Eq.refl false) ?_ | refine cN (cF (Eq.refl false) ?_) | refine cTd (by omega) ?_ | refine cFd (by omega) ?_ | refine cN (cTd (by omega) ?_) | refine cN (cFd (by omega) ?_) | refine And.intro (by omega) ?_ | refine And.intro (Eq.refl true) ?_)
  refine ⟨fun h1 => ?_, fun k1 k2 k3 => ?_⟩
  · rw [spP_n (b := b) (n := n) h1, dec_false (fun g => h1 g.1)] at h
    repeat ((conv => whnf) <;> first | with_reducible first | refine wI (by omega) ?_ | refine And.intro rfl ?_ | rfl | refine And.intro ‹_› ?_ | refine cTe ‹_› ?_ | refine cFe ‹_› ?_ | refine cN (cTe ‹_› ?_) | refine cN (cFe ‹_› ?_) | refine cTe rfl ?_ | refine cEq ‹_› ?_ | refine cTt ?_ | refine cNt ?_ | refine cF (Eq.refl false) ?_ | refine cN (cF (Eq.refl false) ?_) | refine cTd (by omega) ?_ | refine cFd (by omega) ?_ | refine cN (cTd (by omega) ?_) | refine cN (cFd (by omega) ?_) | refine And.intro (by omega) ?_ | refine And.intro (Eq.refl true) ?_)
    refine ⟨fun h2 => ?_, fun j1 j2 j3 => ?_⟩
    · rw [spP_n (b := c) (n := m) h2] at h
      repeat ((conv => whnf) <;> first | with_reducible first | refine wI (by omega) ?_ | refine And.intro rfl ?_ | rfl | refine And.intro ‹_› ?_ | refine cTe ‹_› ?_ | refine cFe ‹_› ?_ | refine cN (cTe ‹_› ?_) | refine cN (cFe ‹_› ?_) | refine cTe rfl ?_ | refine cEq ‹_› ?_ | refine cTt ?_ | refine cNt ?_ | refine cF (Eq.refl false) ?_ | refine cN (cF (Eq.refl false) ?_) | refine cTd (by omega) ?_ | refine cFd (by omega) ?_ | refine cN (cTd (by omega) ?_) | refine cN (cFd (by omega) ?_) | refine And.intro (by omega) ?_ | refine And.intro (Eq.refl true) ?_)
      (conv => whnf)
      exact h
    · rw [spP_y (b := c) (n := m) ⟨j1, j2, j3⟩] at h
      repeat ((conv => whnf) <;> first | with_reducible first | refine wI (by omega) ?_ | refine And.intro rfl ?_ | rfl | refine And.intro ‹_› ?_ | refine cTe ‹_› ?_ | refine cFe ‹_› ?_ | refine cN (cTe ‹_› ?_) | refine cN (cFe ‹_› ?_) | refine cTe rfl ?_ | refine cEq ‹_› ?_ | refine cTt ?_ | refine cNt ?_ | refine cF (Eq.refl false) ?_ | refine cN (cF (Eq.refl false) ?_) | refine cTd (by omega) ?_ | refine cFd (by omega) ?_ | refine cN (cTd (by omega) ?_) | refine cN (cFd (by omega) ?_) | refine And.intro (by omega) ?_ | refine And.intro (Eq.refl true) ?_)
      (conv => whnf)
      exact h
  · rw [spP_y (b := b) (n := n) ⟨k1, k2, k3⟩] at h
    repeat ((conv => whnf) <;> first | with_reducible first | refine wI (by omega) ?_ | refine And.intro rfl ?_ | rfl | refine And.intro ‹_› ?_ | refine cTe ‹_› ?_ | refine cFe ‹_› ?_ | refine cN (cTe ‹_› ?_) | refine cN (cFe ‹_› ?_) | refine cTe rfl ?_ | refine cEq ‹_› ?_ | refine cTt ?_ | refine cNt ?_ | refine cF (Eq.refl false) ?_ | refine cN (cF (Eq.refl false) ?_) | refine cTd (by omega) ?_ | refine cFd (by omega) ?_ | refine cN (cTd (by omega) ?_) | refine cN (cFd (by omega) ?_) | refine And.intro (by omega) ?_ | refine And.intro (Eq.refl true) ?_)
    refine ⟨fun h2 => ?_, fun j1 j2 j3 => ?_⟩
    · rw [spP_n (b := c) (n := m) h2, dec_false (fun g => h2 g.2)] at h
      repeat ((conv => whnf) <;> first | with_reducible first | refine wI (by omega) ?_ | refine And.intro rfl ?_ | rfl | refine And.intro ‹_› ?_ | refine cTe ‹_› ?_ | refine cFe ‹_› ?_ | refine cN (cTe ‹_› ?_) | refine cN (cFe ‹_› ?_) | refine cTe rfl ?_ | refine cEq ‹_› ?_ | refine cTt ?_ | refine cNt ?_ | refine cF (Eq.refl false) ?_ | refine cN (cF (Eq.refl false) ?_) | refine cTd (by omega) ?_ | refine cFd (by omega) ?_ | refine cN (cTd (by omega) ?_) | refine cN (cFd (by omega) ?_) | refine And.intro (by omega) ?_ | refine And.intro (Eq.refl true) ?_)
      (conv => whnf)
      exact h
    · rw [spP_y (b := c) (n := m) ⟨j1, j2, j3⟩, dec_true ⟨⟨k1, k2, k3⟩, j1, j2, j3⟩] at h
      repeat ((conv => whnf) <;> first | with_reducible first | refine wI (by omega) ?_ | refine And.intro rfl ?_ | rfl | refine And.intro ‹_› ?_ | refine cTe ‹_› ?_ | refine cFe ‹_› ?_ | refine cN (cTe ‹_› ?_) | refine cN (cFe ‹_› ?_) | refine cTe rfl ?_ | refine cEq ‹_› ?_ | refine cTt ?_ | refine cNt ?_ | refine cF (Eq.refl false) ?_ | refine cN (cF (Eq.refl false) ?_) | refine cTd (by omega) ?_ | refine cFd (by omega) ?_ | refine cN (cTd (by omega) ?_) | refine cN (cFd (by omega) ?_) | refine And.intro (by omega) ?_ | refine And.intro (Eq.refl true) ?_)
      (conv => whnf)
      exact h
theorem tb_spots13_ok : Con Tryz.prog tb_spots13.1 tb_spots13.2 := con_tree twO_ok o_spots13 [.agg [.one (.var 0), .one (.var 1), .one (.var 2), .one (.var 3)]] 4 Tryz.func4 rfl c_spots13 aw_spots13 g_spots13
end Go.Proofs.YtohebkkiicbdoaaGreat
