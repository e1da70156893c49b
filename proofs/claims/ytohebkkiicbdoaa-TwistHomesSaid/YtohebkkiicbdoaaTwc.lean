/- Chapter 13: TwistHomes -/
import Derived.Test.YtohebkkiicbdoaaTwb
import Derived.Test.YtohebkkiicbdoaaOpe
set_option linter.unusedSimpArgs false
set_option linter.unusedVariables false
namespace Go.Proofs.Ytohebkkiicbdoaa
open Go.RowKit FdP FdP.Ch
def spOK2 (b : List Int) (n : Int) : Prop := b.length ≤ 57 ∧ 0 ≤ n ∧ n ≤ 3
theorem spP_ex : ∃ f : List Int → Int → G, (∀ b n, spOK2 b n → f b n = sgG b n) ∧ ∀ b n, ¬ spOK2 b n → f b n = 0 := by
  classical
  exact ⟨fun b n => if spOK2 b n then sgG b n else 0, fun b n h => if_pos h, fun b n h => if_neg h⟩
noncomputable def spP : List Int → Int → G := spP_ex.choose
theorem spP_y {b : List Int} {n : Int} (h : spOK2 b n) : spP b n = sgG b n := spP_ex.choose_spec.1 b n h
theorem spP_n {b : List Int} {n : Int} (h : ¬ spOK2 b n) : spP b n = 0 := spP_ex.choose_spec.2 b n h
def tSpots13 : Trans := fun zs Q => match zs with
  | [.agg [.isl .u8 b, .int .i64 n, .isl .u8 c, .int .i64 m]] => (By b ∧ By c) ∧ Q (.tup [.agg [.ob (.pt (spP b n)), .ob (.pt (spP c m))], .agg [.ob (.fpt (spP b n)), .ob (.fpt (spP c m))], .bool (dec (spOK2 b n ∧ spOK2 c m))])
  | _ => False
def tTAff : Trans := fun zs Q => match zs with
  | [.agg [.el a, .el b]] => Q (.tup [.el a, .el b])
  | _ => False
theorem uT_neg (p : G) : uT (-p) = -uT p ∧ vT (-p) = vT p := by rw [uT_eq, uT_eq, vT_eq, vT_eq]; exact ⟨tuG_neg p, tvG_neg p⟩
theorem tn_8 (u v : F) : 1 - kd * (u * u * (v * v)) = 1 - u * u * (v * v) * z 39082 := by
  show 1 - kd * (u * u * (v * v)) = 1 - u * u * (v * v) * kd
  generalize kd = k; grind
theorem onT_G (p : G) : onT (uT p) (vT p) := by
  have h := onG p
  unfold onT
  rw [uT_eq, vT_eq, z_one]
  exact h.trans (tn_8 _ _)

theorem G_assoc (p q r : G) : (p + q) + r = p + (q + r) := G.assoc p q r
def twO : Tab := tb_made11 :: []
theorem twO_ok : twO.OK Try.prog := tab_cons tb_made11_ok <| tab_nil _
def o_spots13 : Orc := { ans := [(12, .one ⟨.leaf (.atom (.var 0)), 1, []⟩), (13, .one ⟨.leaf (.agg [.one (.var 0), .one (.var 1)]), 2, []⟩), (14, .two ⟨.tup [.agg [.whole 0 24], .agg [.whole 1 48], .atom (.const (.bool true))], 2, []⟩ ⟨.tup [.agg [.whole 0 24], .agg [.whole 1 48], .atom (.const (.bool false))], 2, []⟩), (19, .one ⟨.leaf (.atom (.var 0)), 1, []⟩), (20, .one ⟨.leaf (.agg [.one (.var 0), .one (.var 1)]), 2, []⟩), (21, .one ⟨.tup [.agg [.whole 0 24], .agg [.whole 1 48], .atom (.var 2)], 3, []⟩), (25, .one ⟨.leaf (.agg [.whole 0 24]), 1, []⟩), (26, .one ⟨.leaf (.agg [.whole 0 24]), 1, []⟩), (28, .one ⟨.leaf (.agg [.whole 0 48]), 1, []⟩), (29, .one ⟨.leaf (.agg [.whole 0 48]), 1, []⟩), (34, .one ⟨.leaf (.atom (.var 0)), 1, []⟩)], lps := [], alls := [3] }
def t_spots13 : Tree :=
  .new <|
  .new <|
  .new <|
  .call2 9 [.agg [.one (.var 0), .one (.var 1)]] ([], []) (.tup [.agg [.whole 4 24], .agg [.whole 5 48], .atom (.const (.bool true))]) 2 [] (
    .new <|
    .new <|
    .call 9 [.agg [.one (.var 2), .one (.var 3)]] ([], []) (.tup [.agg [.whole 6 24], .agg [.whole 7 48], .atom (.var 8)]) 3 [] <|
    .new <|
    .new <|
    .ret ([], []) (.tup [.agg [.whole 4 24, .whole 6 24], .agg [.whole 5 48, .whole 7 48], .atom (.var 8)])) (.tup [.agg [.whole 4 24], .agg [.whole 5 48], .atom (.const (.bool false))]) 2 [] <|
  .new <|
  .new <|
  .call 9 [.agg [.one (.var 2), .one (.var 3)]] ([], []) (.tup [.agg [.whole 6 24], .agg [.whole 7 48], .atom (.var 8)]) 3 [] <|
  .new <|
  .new <|
  .ret ([], []) (.tup [.agg [.whole 4 24, .whole 6 24], .agg [.whole 5 48, .whole 7 48], .atom (.const (.bool false))])
theorem c_spots13 : compF Try.prog Try.f16 o_spots13 (Try.f16.body.getD .skip) (symIn [.agg [.one (.var 0), .one (.var 1), .one (.var 2), .one (.var 3)]] Try.f16.ntmps 4) = some t_spots13 := by kernel_rfl
theorem g_spots13 : goodC Try.prog o_spots13.ords (Try.f16.body.getD .skip) = true := by kernel_rfl
def tb_spots13 : FuncId × Trans := (16, tSpots13)
set_option maxRecDepth 100000 in
theorem aw_spots13 : ∀ zs Q, tb_spots13.2 zs Q → bindLs 0 [.agg [.one (.var 0), .one (.var 1), .one (.var 2), .one (.var 3)]] zs fun ae => bif Nat.beq ae.length 4 then AWp Try.prog twO Q t_spots13 [] ae else False := by
  intro zs Q h
  replace h : tSpots13 zs Q := h
  unfold tSpots13 at h
  split at h
  case h_2 => exact h.elim
  rename_i b n c m
  obtain ⟨⟨hb, hc⟩, h⟩ := h
  repeat ((conv => whnf) <;> first | with_reducible first | refine wI (by omega) ?_ | refine wB (by omega) ?_ | refine wR (by omega) ?_ | refine wQ (by omega) ?_ | refine And.intro rfl ?_ | rfl | refine And.intro ‹_› ?_ | refine cTe ‹_› ?_ | refine cFe ‹_› ?_ | refine cN (cTe ‹_› ?_) | refine cN (cFe ‹_› ?_) | refine cTe rfl ?_ | refine cEq ‹_› ?_ | refine cTt ?_ | refine cNt ?_ | refine cF (Eq.refl false) ?_ | refine cN (cF (Eq.refl false) ?_) | refine cTd (by omega) ?_ | refine cFd (by omega) ?_ | refine cN (cTd (by omega) ?_) | refine cN (cFd (by omega) ?_) | refine And.intro (fun hh : Option.isSome none = true => by cases hh) ?_ | refine And.intro (by omega) ?_ | refine And.intro (Eq.refl true) ?_ | refine And.intro (Eq.refl (1 : Nat)) ?_)
  refine ⟨fun h1 => ?_, fun k1 k2 k3 => ?_⟩
  · rw [spP_n (b := b) (n := n) h1, dec_false (fun g => h1 g.1)] at h
    repeat ((conv => whnf) <;> first | with_reducible first | refine wI (by omega) ?_ | refine wB (by omega) ?_ | refine wR (by omega) ?_ | refine wQ (by omega) ?_ | refine And.intro rfl ?_ | rfl | refine And.intro ‹_› ?_ | refine cTe ‹_› ?_ | refine cFe ‹_› ?_ | refine cN (cTe ‹_› ?_) | refine cN (cFe ‹_› ?_) | refine cTe rfl ?_ | refine cEq ‹_› ?_ | refine cTt ?_ | refine cNt ?_ | refine cF (Eq.refl false) ?_ | refine cN (cF (Eq.refl false) ?_) | refine cTd (by omega) ?_ | refine cFd (by omega) ?_ | refine cN (cTd (by omega) ?_) | refine cN (cFd (by omega) ?_) | refine And.intro (fun hh : Option.isSome none = true => by cases hh) ?_ | refine And.intro (by omega) ?_ | refine And.intro (Eq.refl true) ?_ | refine And.intro (Eq.refl (1 : Nat)) ?_)
    refine ⟨fun h2 => ?_, fun j1 j2 j3 => ?_⟩
    · rw [spP_n (b := c) (n := m) h2] at h
      repeat ((conv => whnf) <;> first | with_reducible first | refine wI (by omega) ?_ | refine wB (by omega) ?_ | refine wR (by omega) ?_ | refine wQ (by omega) ?_ | refine And.intro rfl ?_ | rfl | refine And.intro ‹_› ?_ | refine cTe ‹_› ?_ | refine cFe ‹_› ?_ | refine cN (cTe ‹_› ?_) | refine cN (cFe ‹_› ?_) | refine cTe rfl ?_ | refine cEq ‹_› ?_ | refine cTt ?_ | refine cNt ?_ | refine cF (Eq.refl false) ?_ | refine cN (cF (Eq.refl false) ?_) | refine cTd (by omega) ?_ | refine cFd (by omega) ?_ | refine cN (cTd (by omega) ?_) | refine cN (cFd (by omega) ?_) | refine And.intro (fun hh : Option.isSome none = true => by cases hh) ?_ | refine And.intro (by omega) ?_ | refine And.intro (Eq.refl true) ?_ | refine And.intro (Eq.refl (1 : Nat)) ?_)
      (conv => whnf)
      exact h
    · rw [spP_y (b := c) (n := m) ⟨j1, j2, j3⟩] at h
      repeat ((conv => whnf) <;> first | with_reducible first | refine wI (by omega) ?_ | refine wB (by omega) ?_ | refine wR (by omega) ?_ | refine wQ (by omega) ?_ | refine And.intro rfl ?_ | rfl | refine And.intro ‹_› ?_ | refine cTe ‹_› ?_ | refine cFe ‹_› ?_ | refine cN (cTe ‹_› ?_) | refine cN (cFe ‹_› ?_) | refine cTe rfl ?_ | refine cEq ‹_› ?_ | refine cTt ?_ | refine cNt ?_ | refine cF (Eq.refl false) ?_ | refine cN (cF (Eq.refl false) ?_) | refine cTd (by omega) ?_ | refine cFd (by omega) ?_ | refine cN (cTd (by omega) ?_) | refine cN (cFd (by omega) ?_) | refine And.intro (fun hh : Option.isSome none = true => by cases hh) ?_ | refine And.intro (by omega) ?_ | refine And.intro (Eq.refl true) ?_ | refine And.intro (Eq.refl (1 : Nat)) ?_)
      (conv => whnf)
      exact h
  · rw [spP_y (b := b) (n := n) ⟨k1, k2, k3⟩] at h
    repeat ((conv => whnf) <;> first | with_reducible first | refine wI (by omega) ?_ | refine wB (by omega) ?_ | refine wR (by omega) ?_ | refine wQ (by omega) ?_ | refine And.intro rfl ?_ | rfl | refine And.intro ‹_› ?_ | refine cTe ‹_› ?_ | refine cFe ‹_› ?_ | refine cN (cTe ‹_› ?_) | refine cN (cFe ‹_› ?_) | refine cTe rfl ?_ | refine cEq ‹_› ?_ | refine cTt ?_ | refine cNt ?_ | refine cF (Eq.refl false) ?_ | refine cN (cF (Eq.refl false) ?_) | refine cTd (by omega) ?_ | refine cFd (by omega) ?_ | refine cN (cTd (by omega) ?_) | refine cN (cFd (by omega) ?_) | refine And.intro (fun hh : Option.isSome none = true => by cases hh) ?_ | refine And.intro (by omega) ?_ | refine And.intro (Eq.refl true) ?_ | refine And.intro (Eq.refl (1 : Nat)) ?_)
    refine ⟨fun h2 => ?_, fun j1 j2 j3 => ?_⟩
    · rw [spP_n (b := c) (n := m) h2, dec_false (fun g => h2 g.2)] at h
      repeat ((conv => whnf) <;> first | with_reducible first | refine wI (by omega) ?_ | refine wB (by omega) ?_ | refine wR (by omega) ?_ | refine wQ (by omega) ?_ | refine And.intro rfl ?_ | rfl | refine And.intro ‹_› ?_ | refine cTe ‹_› ?_ | refine cFe ‹_› ?_ | refine cN (cTe ‹_› ?_) | refine cN (cFe ‹_› ?_) | refine cTe rfl ?_ | refine cEq ‹_› ?_ | refine cTt ?_ | refine cNt ?_ | refine cF (Eq.refl false) ?_ | refine cN (cF (Eq.refl false) ?_) | refine cTd (by omega) ?_ | refine cFd (by omega) ?_ | refine cN (cTd (by omega) ?_) | refine cN (cFd (by omega) ?_) | refine And.intro (fun hh : Option.isSome none = true => by cases hh) ?_ | refine And.intro (by omega) ?_ | refine And.intro (Eq.refl true) ?_ | refine And.intro (Eq.refl (1 : Nat)) ?_)
      (conv => whnf)
      exact h
    · rw [spP_y (b := c) (n := m) ⟨j1, j2, j3⟩, dec_true ⟨⟨k1, k2, k3⟩, j1, j2, j3⟩] at h
      repeat ((conv => whnf) <;> first | with_reducible first | refine wI (by omega) ?_ | refine wB (by omega) ?_ | refine wR (by omega) ?_ | refine wQ (by omega) ?_ | refine And.intro rfl ?_ | rfl | refine And.intro ‹_› ?_ | refine cTe ‹_› ?_ | refine cFe ‹_› ?_ | refine cN (cTe ‹_› ?_) | refine cN (cFe ‹_› ?_) | refine cTe rfl ?_ | refine cEq ‹_› ?_ | refine cTt ?_ | refine cNt ?_ | refine cF (Eq.refl false) ?_ | refine cN (cF (Eq.refl false) ?_) | refine cTd (by omega) ?_ | refine cFd (by omega) ?_ | refine cN (cTd (by omega) ?_) | refine cN (cFd (by omega) ?_) | refine And.intro (fun hh : Option.isSome none = true => by cases hh) ?_ | refine And.intro (by omega) ?_ | refine And.intro (Eq.refl true) ?_ | refine And.intro (Eq.refl (1 : Nat)) ?_)
      (conv => whnf)
      exact h
theorem tb_spots13_ok : Con Try.prog tb_spots13.1 tb_spots13.2 := con_tree twO_ok o_spots13 [.agg [.one (.var 0), .one (.var 1), .one (.var 2), .one (.var 3)]] 4 Try.func16 rfl c_spots13 aw_spots13 g_spots13
def o_taff13 : Orc := { ans := [(4, .one ⟨.leaf (.atom (.var 0)), 1, []⟩), (5, .one ⟨.leaf (.agg [.whole 0 8]), 1, []⟩), (6, .one ⟨.leaf (.atom (.var 0)), 1, []⟩), (7, .one ⟨.leaf (.agg [.whole 0 8]), 1, []⟩)], lps := [], alls := [1] }
def t_taff13 : Tree :=
  .new <|
  .new <|
  .new <|
  .ret ([], []) (.tup [.agg [.whole 0 8], .agg [.whole 1 8]])
theorem c_taff13 : compF Try.prog Try.f10 o_taff13 (Try.f10.body.getD .skip) (symIn [.agg [.whole 0 8, .whole 1 8]] Try.f10.ntmps 2) = some t_taff13 := by kernel_rfl
theorem g_taff13 : goodC Try.prog o_taff13.ords (Try.f10.body.getD .skip) = true := by kernel_rfl
def tb_taff13 : FuncId × Trans := (10, tTAff)
set_option maxRecDepth 100000 in
theorem aw_taff13 : ∀ zs Q, tb_taff13.2 zs Q → bindLs 0 [.agg [.whole 0 8, .whole 1 8]] zs fun ae => bif Nat.beq ae.length 2 then AWp Try.prog twO Q t_taff13 [] ae else False := by
  intro zs Q h
  replace h : tTAff zs Q := h
  unfold tTAff at h
  split at h
  case h_2 => exact h.elim
  repeat ((conv => whnf) <;> first | with_reducible first | refine wI (by omega) ?_ | refine wB (by omega) ?_ | refine wR (by omega) ?_ | refine wQ (by omega) ?_ | refine And.intro rfl ?_ | rfl | refine And.intro ‹_› ?_ | refine cTe ‹_› ?_ | refine cFe ‹_› ?_ | refine cN (cTe ‹_› ?_) | refine cN (cFe ‹_› ?_) | refine cTe rfl ?_ | refine cEq ‹_› ?_ | refine cTt ?_ | refine cNt ?_ | refine cF (Eq.refl false) ?_ | refine cN (cF (Eq.refl false) ?_) | refine cTd (by omega) ?_ | refine cFd (by omega) ?_ | refine cN (cTd (by omega) ?_) | refine cN (cFd (by omega) ?_) | refine And.intro (fun hh : Option.isSome none = true => by cases hh) ?_ | refine And.intro (by omega) ?_ | refine And.intro (Eq.refl true) ?_ | refine And.intro (Eq.refl (1 : Nat)) ?_)
  (conv => whnf)
  exact h
theorem tb_taff13_ok : Con Try.prog tb_taff13.1 tb_taff13.2 := con_tree twO_ok o_taff13 [.agg [.whole 0 8, .whole 1 8]] 2 Try.func10 rfl c_taff13 aw_taff13 g_taff13
def twP : Tab := tb_awake13 :: tb_spots13 :: tb_made11 :: tb_tto :: tb_tadd :: tb_taff13 :: tb_tof13 :: tb_padd :: tb_pneg :: tb_tneg :: tb_teq :: tb_tid :: []
theorem twP_ok : twP.OK Try.prog := tab_cons tb_awake13_ok <| tab_cons tb_spots13_ok <| tab_cons tb_made11_ok <| tab_cons tb_tto_ok <| tab_cons tb_tadd_ok <| tab_cons tb_taff13_ok <| tab_cons tb_tof13_ok <| tab_cons tb_padd_ok <| tab_cons tb_pneg_ok <| tab_cons tb_tneg_ok <| tab_cons tb_teq_ok <| tab_cons tb_tid_ok <| tab_nil _
def o_thomes : Orc := { ans := [(21, .one ⟨.leaf (.agg [.one (.var 0), .one (.var 1), .one (.var 2), .one (.var 3)]), 4, []⟩), (22, .two ⟨.tup [.agg [.whole 0 24, .whole 1 24], .agg [.whole 2 48, .whole 3 48], .atom (.const (.bool true))], 4, []⟩ ⟨.tup [.agg [.whole 0 24, .whole 1 24], .agg [.whole 2 48, .whole 3 48], .atom (.const (.bool false))], 4, []⟩), (27, .one ⟨.leaf (.agg [.one (.var 0), .one (.var 1)]), 2, []⟩), (28, .one ⟨.tup [.agg [.whole 0 24], .agg [.whole 1 48], .atom (.var 2)], 3, []⟩), (33, .one ⟨.leaf (.atom (.var 0)), 1, []⟩), (36, .one ⟨.leaf (.atom (.var 0)), 1, []⟩), (37, .one ⟨.leaf (.atom (.var 0)), 1, []⟩), (38, .two ⟨.leaf (.atom (.const (.bool true))), 0, []⟩ ⟨.leaf (.atom (.const (.bool false))), 0, []⟩), (39, .one ⟨.leaf (.atom (.var 0)), 1, []⟩), (40, .one ⟨.leaf (.agg [.whole 0 24]), 1, []⟩), (41, .one ⟨.leaf (.agg [.whole 0 8, .whole 1 8]), 2, []⟩), (42, .one ⟨.leaf (.atom (.var 0)), 1, []⟩), (43, .one ⟨.leaf (.agg [.whole 0 24]), 1, []⟩), (44, .one ⟨.leaf (.agg [.whole 0 8, .whole 1 8]), 2, []⟩), (45, .one ⟨.leaf (.agg [.whole 0 24]), 1, []⟩), (46, .one ⟨.leaf (.agg [.whole 0 8, .whole 1 8]), 2, []⟩), (47, .one ⟨.leaf (.agg [.whole 0 8, .whole 1 8]), 2, []⟩), (48, .one ⟨.leaf (.agg [.whole 0 8, .whole 1 8]), 2, []⟩), (49, .one ⟨.leaf (.agg [.whole 0 8, .whole 1 8]), 2, []⟩), (50, .one ⟨.leaf (.agg [.whole 0 8, .whole 1 8]), 2, []⟩), (51, .one ⟨.leaf (.agg [.whole 0 8, .whole 1 8]), 2, []⟩), (52, .one ⟨.leaf (.agg [.whole 0 8, .whole 1 8]), 2, []⟩), (53, .one ⟨.leaf (.agg [.whole 0 8, .whole 1 8]), 2, []⟩), (54, .one ⟨.leaf (.agg [.whole 0 8, .whole 1 8]), 2, []⟩), (55, .one ⟨.leaf (.agg [.whole 0 8, .whole 1 8]), 2, []⟩), (56, .one ⟨.leaf (.agg [.whole 0 8, .whole 1 8]), 2, []⟩), (58, .one ⟨.leaf (.agg [.whole 0 8, .whole 1 8]), 2, []⟩), (59, .one ⟨.tup [.agg [.whole 0 8], .agg [.whole 1 8]], 2, []⟩), (63, .one ⟨.leaf (.agg [.whole 0 8]), 1, []⟩), (64, .one ⟨.leaf (.agg [.whole 0 8]), 1, []⟩), (65, .one ⟨.tup [.agg [.whole 0 8, .whole 1 8], .atom (.var 2)], 3, []⟩), (69, .two ⟨.leaf (.atom (.const (.bool true))), 0, []⟩ ⟨.leaf (.atom (.const (.bool false))), 0, []⟩), (71, .one ⟨.leaf (.atom (.var 0)), 1, []⟩), (72, .one ⟨.leaf (.agg [.whole 0 24]), 1, []⟩), (73, .one ⟨.leaf (.atom (.var 0)), 1, []⟩), (74, .one ⟨.leaf (.agg [.whole 0 24]), 1, []⟩), (75, .one ⟨.leaf (.agg [.whole 0 24]), 1, []⟩), (76, .one ⟨.leaf (.agg [.whole 0 8, .whole 1 8]), 2, []⟩), (77, .one ⟨.leaf (.agg [.whole 0 8, .whole 1 8]), 2, []⟩), (78, .one ⟨.leaf (.agg [.whole 0 8, .whole 1 8]), 2, []⟩), (79, .one ⟨.leaf (.agg [.whole 0 8, .whole 1 8]), 2, []⟩), (80, .two ⟨.leaf (.atom (.const (.bool true))), 0, []⟩ ⟨.leaf (.atom (.const (.bool false))), 0, []⟩), (81, .one ⟨.leaf (.atom (.var 0)), 1, []⟩), (83, .one ⟨.leaf (.atom (.var 0)), 1, []⟩), (84, .one ⟨.leaf (.agg [.whole 0 24]), 1, []⟩), (85, .one ⟨.leaf (.agg [.whole 0 24]), 1, []⟩), (86, .one ⟨.leaf (.agg [.whole 0 8, .whole 1 8]), 2, []⟩), (87, .one ⟨.leaf (.agg [.whole 0 8, .whole 1 8]), 2, []⟩), (88, .one ⟨.leaf (.agg [.whole 0 8, .whole 1 8]), 2, []⟩), (89, .two ⟨.leaf (.atom (.const (.bool true))), 0, []⟩ ⟨.leaf (.atom (.const (.bool false))), 0, []⟩), (90, .one ⟨.leaf (.atom (.var 0)), 1, []⟩), (92, .one ⟨.leaf (.agg [.whole 0 8, .whole 1 8]), 2, []⟩), (93, .one ⟨.leaf (.agg [.whole 0 8, .whole 1 8]), 2, []⟩), (94, .one ⟨.leaf (.agg [.whole 0 8, .whole 1 8]), 2, []⟩), (95, .one ⟨.leaf (.agg [.whole 0 8, .whole 1 8]), 2, []⟩), (96, .one ⟨.leaf (.agg [.whole 0 8, .whole 1 8]), 2, []⟩), (97, .one ⟨.leaf (.agg [.whole 0 8, .whole 1 8]), 2, []⟩), (98, .two ⟨.leaf (.atom (.const (.bool true))), 0, []⟩ ⟨.leaf (.atom (.const (.bool false))), 0, []⟩), (99, .one ⟨.leaf (.atom (.var 0)), 1, []⟩), (101, .one ⟨.leaf (.agg [.whole 0 8, .whole 1 8]), 2, []⟩), (102, .one ⟨.leaf (.agg [.whole 0 8, .whole 1 8]), 2, []⟩), (103, .two ⟨.leaf (.atom (.const (.bool true))), 0, []⟩ ⟨.leaf (.atom (.const (.bool false))), 0, []⟩), (104, .one ⟨.leaf (.atom (.var 0)), 1, []⟩), (106, .one ⟨.leaf (.agg [.whole 0 8, .whole 1 8]), 2, []⟩), (107, .one ⟨.leaf (.agg [.whole 0 8, .whole 1 8]), 2, []⟩), (108, .one ⟨.leaf (.agg [.whole 0 8, .whole 1 8]), 2, []⟩), (109, .one ⟨.leaf (.agg [.whole 0 8, .whole 1 8]), 2, []⟩), (110, .two ⟨.leaf (.atom (.const (.bool true))), 0, []⟩ ⟨.leaf (.atom (.const (.bool false))), 0, []⟩), (111, .one ⟨.leaf (.atom (.var 0)), 1, []⟩), (113, .one ⟨.leaf (.agg [.whole 0 8, .whole 1 8]), 2, []⟩), (114, .one ⟨.leaf (.agg [.whole 0 8, .whole 1 8]), 2, []⟩), (115, .one ⟨.leaf (.agg [.whole 0 8, .whole 1 8]), 2, []⟩), (116, .one ⟨.leaf (.agg [.whole 0 8, .whole 1 8]), 2, []⟩), (117, .one ⟨.leaf (.agg [.whole 0 8, .whole 1 8]), 2, []⟩), (118, .two ⟨.leaf (.atom (.const (.bool true))), 0, []⟩ ⟨.leaf (.atom (.const (.bool false))), 0, []⟩), (119, .one ⟨.leaf (.atom (.var 0)), 1, []⟩), (121, .two ⟨.leaf (.atom (.const (.bool true))), 0, []⟩ ⟨.leaf (.atom (.const (.bool false))), 0, []⟩), (122, .one ⟨.leaf (.atom (.var 0)), 1, []⟩)], lps := [], ords := [(8, [.quiet 0, .quiet 1, .quiet 3, .call 2 [5], .call 4 [5], .make 5 [], .last 6]), (9, [.quiet 0, .quiet 1, .quiet 2, .call 3 [5], .call 4 [5], .make 5 [], .last 6]), (12, [.pure 0, .quiet 1, .pure 2, .quiet 3, .quiet 4, .quiet 5, .quiet 6, .quiet 9, .quiet 10, .call 7 [], .call 8 [], .call 11 [], .call 12 [], .quiet 13, .pure 14, .quiet 15, .quiet 16, .quiet 19, .call 17 [], .call 18 [], .call 20 [], .call 21 [], .quiet 22, .pure 23, .quiet 24, .quiet 25, .quiet 27, .quiet 28, .call 26 [], .call 29 [], .call 30 [], .quiet 31, .pure 32, .quiet 33, .quiet 34, .call 35 [], .quiet 36, .pure 37, .quiet 38, .quiet 41, .call 39 [], .call 40 [], .call 42 [], .quiet 43, .pure 44, .quiet 45, .quiet 46, .call 47 [], .call 48 [], .call 49 [], .call 50 [], .quiet 51, .pure 52, .call 53 [], .quiet 54, .pure 55])] }
def t_thomes : Tree :=
  .new <|
  .new <|
  .call2 16 [.agg [.one (.var 0), .one (.var 1), .one (.var 2), .one (.var 3)]] ([], []) (.tup [.agg [.whole 6 24, .whole 7 24], .agg [.whole 8 48, .whole 9 48], .atom (.const (.bool true))]) 4 [] (
    .new <|
    .new <|
    .call 9 [.agg [.one (.var 4), .one (.var 5)]] ([], []) (.tup [.agg [.whole 10 24], .agg [.whole 11 48], .atom (.var 12)]) 3 [] <|
    .new <|
    .new <|
    .calc (.unOp .not 4 (.tmp 35)) 4 [(35, .leaf (.atom (.var 12)))] ([], []) (.leaf (.atom (.var 13))) 1 <|
    .ite (.var 13) (
      .call2 8 [] ([], []) (.leaf (.atom (.const (.bool true)))) 0 [] (
        .ret ([], []) (.leaf (.atom (.const (.bool true))))) (.leaf (.atom (.const (.bool false)))) 0 [] <|
      .ret ([], []) (.leaf (.atom (.const (.bool false))))) <|
    .call 11 [.agg [.whole 6 24]] ([], []) (.leaf (.agg [.whole 14 8, .whole 15 8])) 2 [] <|
    .new <|
    .call 11 [.agg [.whole 7 24]] ([], []) (.leaf (.agg [.whole 16 8, .whole 17 8])) 2 [] <|
    .new <|
    .call 11 [.agg [.whole 10 24]] ([], []) (.leaf (.agg [.whole 18 8, .whole 19 8])) 2 [] <|
    .new <|
    .call 17 [.agg [.whole 14 8, .whole 15 8], .agg [.whole 16 8, .whole 17 8]] ([], []) (.leaf (.agg [.whole 20 8, .whole 21 8])) 2 [] <|
    .call 17 [.agg [.whole 20 8, .whole 21 8], .agg [.whole 18 8, .whole 19 8]] ([], []) (.leaf (.agg [.whole 22 8, .whole 23 8])) 2 [] <|
    .new <|
    .call 17 [.agg [.whole 16 8, .whole 17 8], .agg [.whole 18 8, .whole 19 8]] ([], []) (.leaf (.agg [.whole 24 8, .whole 25 8])) 2 [] <|
    .call 17 [.agg [.whole 14 8, .whole 15 8], .agg [.whole 24 8, .whole 25 8]] ([], []) (.leaf (.agg [.whole 26 8, .whole 27 8])) 2 [] <|
    .new <|
    .call 10 [.agg [.whole 14 8, .whole 15 8]] ([], []) (.tup [.agg [.whole 28 8], .agg [.whole 29 8]]) 2 [] <|
    .new <|
    .new <|
    .call 13 [.agg [.whole 28 8], .agg [.whole 29 8]] ([], []) (.tup [.agg [.whole 30 8, .whole 31 8], .atom (.var 32)]) 3 [] <|
    .new <|
    .calc2 (.binOp .eql 49 (.tmp 68) (.const (.int .i64 0)) 49) 4 [(68, .leaf (.atom (.var 32)))] ([], []) (.leaf (.atom (.const (.bool true)))) 0 (
      .call 28 [.agg [.whole 6 24], .agg [.whole 7 24]] ([], []) (.leaf (.agg [.whole 33 24])) 1 [] <|
      .call 11 [.agg [.whole 33 24]] ([], []) (.leaf (.agg [.whole 34 8, .whole 35 8])) 2 [] <|
      .call 17 [.agg [.whole 14 8, .whole 15 8], .agg [.whole 16 8, .whole 17 8]] ([], []) (.leaf (.agg [.whole 36 8, .whole 37 8])) 2 [] <|
      .call2 27 [.agg [.whole 34 8, .whole 35 8], .agg [.whole 36 8, .whole 37 8]] ([], []) (.leaf (.atom (.const (.bool true)))) 0 [] (
        .call 29 [.agg [.whole 6 24]] ([], []) (.leaf (.agg [.whole 38 24])) 1 [] <|
        .call 11 [.agg [.whole 38 24]] ([], []) (.leaf (.agg [.whole 39 8, .whole 40 8])) 2 [] <|
        .call 20 [.agg [.whole 14 8, .whole 15 8]] ([], []) (.leaf (.agg [.whole 41 8, .whole 42 8])) 2 [] <|
        .call2 27 [.agg [.whole 39 8, .whole 40 8], .agg [.whole 41 8, .whole 42 8]] ([], []) (.leaf (.atom (.const (.bool true)))) 0 [] (
          .call 17 [.agg [.whole 14 8, .whole 15 8], .agg [.whole 16 8, .whole 17 8]] ([], []) (.leaf (.agg [.whole 43 8, .whole 44 8])) 2 [] <|
          .call 17 [.agg [.whole 16 8, .whole 17 8], .agg [.whole 14 8, .whole 15 8]] ([], []) (.leaf (.agg [.whole 45 8, .whole 46 8])) 2 [] <|
          .call2 27 [.agg [.whole 43 8, .whole 44 8], .agg [.whole 45 8, .whole 46 8]] ([], []) (.leaf (.atom (.const (.bool true)))) 0 [] (
            .call2 27 [.agg [.whole 22 8, .whole 23 8], .agg [.whole 26 8, .whole 27 8]] ([], []) (.leaf (.atom (.const (.bool true)))) 0 [] (
              .call 30 [] ([], []) (.leaf (.agg [.whole 47 8, .whole 48 8])) 2 [] <|
              .call 17 [.agg [.whole 14 8, .whole 15 8], .agg [.whole 47 8, .whole 48 8]] ([], []) (.leaf (.agg [.whole 49 8, .whole 50 8])) 2 [] <|
              .call2 27 [.agg [.whole 49 8, .whole 50 8], .agg [.whole 14 8, .whole 15 8]] ([], []) (.leaf (.atom (.const (.bool true)))) 0 [] (
                .call 20 [.agg [.whole 14 8, .whole 15 8]] ([], []) (.leaf (.agg [.whole 51 8, .whole 52 8])) 2 [] <|
                .call 17 [.agg [.whole 14 8, .whole 15 8], .agg [.whole 51 8, .whole 52 8]] ([], []) (.leaf (.agg [.whole 53 8, .whole 54 8])) 2 [] <|
                .call 30 [] ([], []) (.leaf (.agg [.whole 55 8, .whole 56 8])) 2 [] <|
                .call2 27 [.agg [.whole 53 8, .whole 54 8], .agg [.whole 55 8, .whole 56 8]] ([], []) (.leaf (.atom (.const (.bool true)))) 0 [] (
                  .call2 8 [] ([], []) (.leaf (.atom (.const (.bool true)))) 0 [] (
                    .ret ([], []) (.leaf (.atom (.const (.bool true))))) (.leaf (.atom (.const (.bool false)))) 0 [] <|
                  .ret ([], []) (.leaf (.atom (.const (.bool false))))) (.leaf (.atom (.const (.bool false)))) 0 [] <|
                .ret ([], []) (.leaf (.atom (.const (.bool false))))) (.leaf (.atom (.const (.bool false)))) 0 [] <|
              .ret ([], []) (.leaf (.atom (.const (.bool false))))) (.leaf (.atom (.const (.bool false)))) 0 [] <|
            .ret ([], []) (.leaf (.atom (.const (.bool false))))) (.leaf (.atom (.const (.bool false)))) 0 [] <|
          .ret ([], []) (.leaf (.atom (.const (.bool false))))) (.leaf (.atom (.const (.bool false)))) 0 [] <|
        .ret ([], []) (.leaf (.atom (.const (.bool false))))) (.leaf (.atom (.const (.bool false)))) 0 [] <|
      .ret ([], []) (.leaf (.atom (.const (.bool false))))) (.leaf (.atom (.const (.bool false)))) 0 <|
    .ret ([], []) (.leaf (.atom (.const (.bool false))))) (.tup [.agg [.whole 6 24, .whole 7 24], .agg [.whole 8 48, .whole 9 48], .atom (.const (.bool false))]) 4 [] <|
  .new <|
  .new <|
  .call 9 [.agg [.one (.var 4), .one (.var 5)]] ([], []) (.tup [.agg [.whole 10 24], .agg [.whole 11 48], .atom (.var 12)]) 3 [] <|
  .new <|
  .new <|
  .call2 8 [] ([], []) (.leaf (.atom (.const (.bool true)))) 0 [] (
    .ret ([], []) (.leaf (.atom (.const (.bool true))))) (.leaf (.atom (.const (.bool false)))) 0 [] <|
  .ret ([], []) (.leaf (.atom (.const (.bool false))))
theorem c_thomes : compF Try.prog Try.f5 o_thomes (Try.f5.body.getD .skip) (symIn [.agg [.one (.var 0), .one (.var 1), .one (.var 2), .one (.var 3)], .agg [.one (.var 4), .one (.var 5)]] Try.f5.ntmps 6) = some t_thomes := by kernel_rfl
theorem g_thomes : goodC Try.prog o_thomes.ords (Try.f5.body.getD .skip) = true := by kernel_rfl
set_option maxRecDepth 100000 in
set_option maxHeartbeats 1000000 in
theorem aw_thomes (b1 : List Int) (yb1 : By b1) (n1 : Int) (r1 : I64 n1) (c1 : List Int) (yc1 : By c1) (m1 : Int) (q1 : I64 m1) (b2 : List Int) (yb2 : By b2) (n2 : Int) (r2 : I64 n2) : AWp Try.prog twP (fun a => a = .bool true) t_thomes [] [.isl .u8 b1, .int .i64 n1, .isl .u8 c1, .int .i64 m1, .isl .u8 b2, .int .i64 n2] := by
  have mb : By b1 ∧ By c1 := ⟨yb1, yc1⟩
  repeat ((conv => whnf) <;> first | with_reducible first | refine wI (by omega) ?_ | refine wB (by omega) ?_ | refine wR (by omega) ?_ | refine wQ (by omega) ?_ | refine And.intro rfl ?_ | rfl | refine And.intro ‹_› ?_ | refine cTe ‹_› ?_ | refine cFe ‹_› ?_ | refine cN (cTe ‹_› ?_) | refine cN (cFe ‹_› ?_) | refine cTe rfl ?_ | refine cEq ‹_› ?_ | refine cTt ?_ | refine cNt ?_ | refine cF (Eq.refl false) ?_ | refine cN (cF (Eq.refl false) ?_) | refine cTd (by omega) ?_ | refine cFd (by omega) ?_ | refine cN (cTd (by omega) ?_) | refine cN (cFd (by omega) ?_) | refine And.intro (fun hh : Option.isSome none = true => by cases hh) ?_ | refine And.intro (by omega) ?_ | refine And.intro (Eq.refl true) ?_ | refine And.intro (Eq.refl (1 : Nat)) ?_)
  refine cD (fun hok => ?_) (fun hno => ?_)
  rotate_left
  · repeat ((conv => whnf) <;> first | with_reducible first | refine wI (by omega) ?_ | refine wB (by omega) ?_ | refine wR (by omega) ?_ | refine wQ (by omega) ?_ | refine And.intro rfl ?_ | rfl | refine And.intro ‹_› ?_ | refine cTe ‹_› ?_ | refine cFe ‹_› ?_ | refine cN (cTe ‹_› ?_) | refine cN (cFe ‹_› ?_) | refine cTe rfl ?_ | refine cEq ‹_› ?_ | refine cTt ?_ | refine cNt ?_ | refine cF (Eq.refl false) ?_ | refine cN (cF (Eq.refl false) ?_) | refine cTd (by omega) ?_ | refine cFd (by omega) ?_ | refine cN (cTd (by omega) ?_) | refine cN (cFd (by omega) ?_) | refine And.intro (fun hh : Option.isSome none = true => by cases hh) ?_ | refine And.intro (by omega) ?_ | refine And.intro (Eq.refl true) ?_ | refine And.intro (Eq.refl (1 : Nat)) ?_)
    exact ⟨fun hh => by repeat ((conv => whnf) <;> first | with_reducible first | refine wI (by omega) ?_ | refine wB (by omega) ?_ | refine wR (by omega) ?_ | refine wQ (by omega) ?_ | refine And.intro rfl ?_ | rfl | refine And.intro ‹_› ?_ | refine cTe ‹_› ?_ | refine cFe ‹_› ?_ | refine cN (cTe ‹_› ?_) | refine cN (cFe ‹_› ?_) | refine cTe rfl ?_ | refine cEq ‹_› ?_ | refine cTt ?_ | refine cNt ?_ | refine cF (Eq.refl false) ?_ | refine cN (cF (Eq.refl false) ?_) | refine cTd (by omega) ?_ | refine cFd (by omega) ?_ | refine cN (cTd (by omega) ?_) | refine cN (cFd (by omega) ?_) | refine And.intro (fun hh : Option.isSome none = true => by cases hh) ?_ | refine And.intro (by omega) ?_ | refine And.intro (Eq.refl true) ?_ | refine And.intro (Eq.refl (1 : Nat)) ?_), fun k1 k2 k3 => by repeat ((conv => whnf) <;> first | with_reducible first | refine wI (by omega) ?_ | refine wB (by omega) ?_ | refine wR (by omega) ?_ | refine wQ (by omega) ?_ | refine And.intro rfl ?_ | rfl | refine And.intro ‹_› ?_ | refine cTe ‹_› ?_ | refine cFe ‹_› ?_ | refine cN (cTe ‹_› ?_) | refine cN (cFe ‹_› ?_) | refine cTe rfl ?_ | refine cEq ‹_› ?_ | refine cTt ?_ | refine cNt ?_ | refine cF (Eq.refl false) ?_ | refine cN (cF (Eq.refl false) ?_) | refine cTd (by omega) ?_ | refine cFd (by omega) ?_ | refine cN (cTd (by omega) ?_) | refine cN (cFd (by omega) ?_) | refine And.intro (fun hh : Option.isSome none = true => by cases hh) ?_ | refine And.intro (by omega) ?_ | refine And.intro (Eq.refl true) ?_ | refine And.intro (Eq.refl (1 : Nat)) ?_)⟩
  repeat ((conv => whnf) <;> first | with_reducible first | refine wI (by omega) ?_ | refine wB (by omega) ?_ | refine wR (by omega) ?_ | refine wQ (by omega) ?_ | refine And.intro rfl ?_ | rfl | refine And.intro ‹_› ?_ | refine cTe ‹_› ?_ | refine cFe ‹_› ?_ | refine cN (cTe ‹_› ?_) | refine cN (cFe ‹_› ?_) | refine cTe rfl ?_ | refine cEq ‹_› ?_ | refine cTt ?_ | refine cNt ?_ | refine cF (Eq.refl false) ?_ | refine cN (cF (Eq.refl false) ?_) | refine cTd (by omega) ?_ | refine cFd (by omega) ?_ | refine cN (cTd (by omega) ?_) | refine cN (cFd (by omega) ?_) | refine And.intro (fun hh : Option.isSome none = true => by cases hh) ?_ | refine And.intro (by omega) ?_ | refine And.intro (Eq.refl true) ?_ | refine And.intro (Eq.refl (1 : Nat)) ?_)
  refine ⟨fun hh => by repeat ((conv => whnf) <;> first | with_reducible first | refine wI (by omega) ?_ | refine wB (by omega) ?_ | refine wR (by omega) ?_ | refine wQ (by omega) ?_ | refine And.intro rfl ?_ | rfl | refine And.intro ‹_› ?_ | refine cTe ‹_› ?_ | refine cFe ‹_› ?_ | refine cN (cTe ‹_› ?_) | refine cN (cFe ‹_› ?_) | refine cTe rfl ?_ | refine cEq ‹_› ?_ | refine cTt ?_ | refine cNt ?_ | refine cF (Eq.refl false) ?_ | refine cN (cF (Eq.refl false) ?_) | refine cTd (by omega) ?_ | refine cFd (by omega) ?_ | refine cN (cTd (by omega) ?_) | refine cN (cFd (by omega) ?_) | refine And.intro (fun hh : Option.isSome none = true => by cases hh) ?_ | refine And.intro (by omega) ?_ | refine And.intro (Eq.refl true) ?_ | refine And.intro (Eq.refl (1 : Nat)) ?_), fun k1 k2 k3 => ?_⟩
  generalize spP b1 n1 = p
  generalize spP c1 m1 = q
  generalize sgG b2 n2 = x
  have hon := onT_G p
  have f1 : uT (p + q) = uT (p + q) ∧ vT (p + q) = vT (p + q) := ⟨rfl, rfl⟩
  have f2 := uT_neg p
  have f3 : uT (p + q) = uT (q + p) ∧ vT (p + q) = vT (q + p) := by rw [G.comm p q]; exact ⟨rfl, rfl⟩
  have f4 : uT ((p + q) + x) = uT (p + (q + x)) ∧ vT ((p + q) + x) = vT (p + (q + x)) := by rw [G_assoc]; exact ⟨rfl, rfl⟩
  have f5 : uT (p + 0) = uT p ∧ vT (p + 0) = vT p := by rw [G.add_zero]; exact ⟨rfl, rfl⟩
  have f6 : uT (p + -p) = z 0 ∧ vT (p + -p) = z 1 := by rw [G.add_neg]; exact uT_01
  repeat ((conv => whnf) <;> first | with_reducible first | refine wI (by omega) ?_ | refine wB (by omega) ?_ | refine wR (by omega) ?_ | refine wQ (by omega) ?_ | refine And.intro rfl ?_ | rfl | refine And.intro ‹_› ?_ | refine cTe ‹_› ?_ | refine cFe ‹_› ?_ | refine cN (cTe ‹_› ?_) | refine cN (cFe ‹_› ?_) | refine cTe rfl ?_ | refine cEq ‹_› ?_ | refine cTt ?_ | refine cNt ?_ | refine cF (Eq.refl false) ?_ | refine cN (cF (Eq.refl false) ?_) | refine cTd (by omega) ?_ | refine cFd (by omega) ?_ | refine cN (cTd (by omega) ?_) | refine cN (cFd (by omega) ?_) | refine And.intro (fun hh : Option.isSome none = true => by cases hh) ?_ | refine And.intro (by omega) ?_ | refine And.intro (Eq.refl true) ?_ | refine And.intro (Eq.refl (1 : Nat)) ?_)
  refine ⟨p, q, ⟨⟨rfl, rfl⟩, rfl, rfl⟩, ?_⟩
  repeat ((conv => whnf) <;> first | with_reducible first | refine wI (by omega) ?_ | refine wB (by omega) ?_ | refine wR (by omega) ?_ | refine wQ (by omega) ?_ | refine And.intro rfl ?_ | rfl | refine And.intro ‹_› ?_ | refine cTe ‹_› ?_ | refine cFe ‹_› ?_ | refine cN (cTe ‹_› ?_) | refine cN (cFe ‹_› ?_) | refine cTe rfl ?_ | refine cEq ‹_› ?_ | refine cTt ?_ | refine cNt ?_ | refine cF (Eq.refl false) ?_ | refine cN (cF (Eq.refl false) ?_) | refine cTd (by omega) ?_ | refine cFd (by omega) ?_ | refine cN (cTd (by omega) ?_) | refine cN (cFd (by omega) ?_) | refine And.intro (fun hh : Option.isSome none = true => by cases hh) ?_ | refine And.intro (by omega) ?_ | refine And.intro (Eq.refl true) ?_ | refine And.intro (Eq.refl (1 : Nat)) ?_)
  refine ⟨p + q, x, ⟨⟨rfl, rfl⟩, rfl, rfl⟩, ?_⟩
  repeat ((conv => whnf) <;> first | with_reducible first | refine wI (by omega) ?_ | refine wB (by omega) ?_ | refine wR (by omega) ?_ | refine wQ (by omega) ?_ | refine And.intro rfl ?_ | rfl | refine And.intro ‹_› ?_ | refine cTe ‹_› ?_ | refine cFe ‹_› ?_ | refine cN (cTe ‹_› ?_) | refine cN (cFe ‹_› ?_) | refine cTe rfl ?_ | refine cEq ‹_› ?_ | refine cTt ?_ | refine cNt ?_ | refine cF (Eq.refl false) ?_ | refine cN (cF (Eq.refl false) ?_) | refine cTd (by omega) ?_ | refine cFd (by omega) ?_ | refine cN (cTd (by omega) ?_) | refine cN (cFd (by omega) ?_) | refine And.intro (fun hh : Option.isSome none = true => by cases hh) ?_ | refine And.intro (by omega) ?_ | refine And.intro (Eq.refl true) ?_ | refine And.intro (Eq.refl (1 : Nat)) ?_)
  refine ⟨q, x, ⟨⟨rfl, rfl⟩, rfl, rfl⟩, ?_⟩
  repeat ((conv => whnf) <;> first | with_reducible first | refine wI (by omega) ?_ | refine wB (by omega) ?_ | refine wR (by omega) ?_ | refine wQ (by omega) ?_ | refine And.intro rfl ?_ | rfl | refine And.intro ‹_› ?_ | refine cTe ‹_› ?_ | refine cFe ‹_› ?_ | refine cN (cTe ‹_› ?_) | refine cN (cFe ‹_› ?_) | refine cTe rfl ?_ | refine cEq ‹_› ?_ | refine cTt ?_ | refine cNt ?_ | refine cF (Eq.refl false) ?_ | refine cN (cF (Eq.refl false) ?_) | refine cTd (by omega) ?_ | refine cFd (by omega) ?_ | refine cN (cTd (by omega) ?_) | refine cN (cFd (by omega) ?_) | refine And.intro (fun hh : Option.isSome none = true => by cases hh) ?_ | refine And.intro (by omega) ?_ | refine And.intro (Eq.refl true) ?_ | refine And.intro (Eq.refl (1 : Nat)) ?_)
  refine ⟨p, q + x, ⟨⟨rfl, rfl⟩, rfl, rfl⟩, ?_⟩
  repeat ((conv => whnf) <;> first | with_reducible first | refine wI (by omega) ?_ | refine wB (by omega) ?_ | refine wR (by omega) ?_ | refine wQ (by omega) ?_ | refine And.intro rfl ?_ | rfl | refine And.intro ‹_› ?_ | refine cTe ‹_› ?_ | refine cFe ‹_› ?_ | refine cN (cTe ‹_› ?_) | refine cN (cFe ‹_› ?_) | refine cTe rfl ?_ | refine cEq ‹_› ?_ | refine cTt ?_ | refine cNt ?_ | refine cF (Eq.refl false) ?_ | refine cN (cF (Eq.refl false) ?_) | refine cTd (by omega) ?_ | refine cFd (by omega) ?_ | refine cN (cTd (by omega) ?_) | refine cN (cFd (by omega) ?_) | refine And.intro (fun hh : Option.isSome none = true => by cases hh) ?_ | refine And.intro (by omega) ?_ | refine And.intro (Eq.refl true) ?_ | refine And.intro (Eq.refl (1 : Nat)) ?_)
  refine ⟨fun _ => ?_, fun g => absurd hon g⟩
  repeat ((conv => whnf) <;> first | with_reducible first | refine wI (by omega) ?_ | refine wB (by omega) ?_ | refine wR (by omega) ?_ | refine wQ (by omega) ?_ | refine And.intro rfl ?_ | rfl | refine And.intro ‹_› ?_ | refine cTe ‹_› ?_ | refine cFe ‹_› ?_ | refine cN (cTe ‹_› ?_) | refine cN (cFe ‹_› ?_) | refine cTe rfl ?_ | refine cEq ‹_› ?_ | refine cTt ?_ | refine cNt ?_ | refine cF (Eq.refl false) ?_ | refine cN (cF (Eq.refl false) ?_) | refine cTd (by omega) ?_ | refine cFd (by omega) ?_ | refine cN (cTd (by omega) ?_) | refine cN (cFd (by omega) ?_) | refine And.intro (fun hh : Option.isSome none = true => by cases hh) ?_ | refine And.intro (by omega) ?_ | refine And.intro (Eq.refl true) ?_ | refine And.intro (Eq.refl (1 : Nat)) ?_)
  refine ⟨p, q, ⟨⟨rfl, rfl⟩, rfl, rfl⟩, ?_⟩
  repeat ((conv => whnf) <;> first | with_reducible first | refine wI (by omega) ?_ | refine wB (by omega) ?_ | refine wR (by omega) ?_ | refine wQ (by omega) ?_ | refine And.intro rfl ?_ | rfl | refine And.intro ‹_› ?_ | refine cTe ‹_› ?_ | refine cFe ‹_› ?_ | refine cN (cTe ‹_› ?_) | refine cN (cFe ‹_› ?_) | refine cTe rfl ?_ | refine cEq ‹_› ?_ | refine cTt ?_ | refine cNt ?_ | refine cF (Eq.refl false) ?_ | refine cN (cF (Eq.refl false) ?_) | refine cTd (by omega) ?_ | refine cFd (by omega) ?_ | refine cN (cTd (by omega) ?_) | refine cN (cFd (by omega) ?_) | refine And.intro (fun hh : Option.isSome none = true => by cases hh) ?_ | refine And.intro (by omega) ?_ | refine And.intro (Eq.refl true) ?_ | refine And.intro (Eq.refl (1 : Nat)) ?_)
  refine ⟨p, q, ⟨⟨rfl, rfl⟩, rfl, rfl⟩, ?_⟩
  repeat ((conv => whnf) <;> first | with_reducible first | refine wI (by omega) ?_ | refine wB (by omega) ?_ | refine wR (by omega) ?_ | refine wQ (by omega) ?_ | refine And.intro rfl ?_ | rfl | refine And.intro ‹_› ?_ | refine cTe ‹_› ?_ | refine cFe ‹_› ?_ | refine cN (cTe ‹_› ?_) | refine cN (cFe ‹_› ?_) | refine cTe rfl ?_ | refine cEq ‹_› ?_ | refine cTt ?_ | refine cNt ?_ | refine cF (Eq.refl false) ?_ | refine cN (cF (Eq.refl false) ?_) | refine cTd (by omega) ?_ | refine cFd (by omega) ?_ | refine cN (cTd (by omega) ?_) | refine cN (cFd (by omega) ?_) | refine And.intro (fun hh : Option.isSome none = true => by cases hh) ?_ | refine And.intro (by omega) ?_ | refine And.intro (Eq.refl true) ?_ | refine And.intro (Eq.refl (1 : Nat)) ?_)
  refine ⟨q, p, ⟨⟨rfl, rfl⟩, rfl, rfl⟩, ?_⟩
  repeat ((conv => whnf) <;> first | with_reducible first | refine wI (by omega) ?_ | refine wB (by omega) ?_ | refine wR (by omega) ?_ | refine wQ (by omega) ?_ | refine And.intro rfl ?_ | rfl | refine And.intro ‹_› ?_ | refine cTe ‹_› ?_ | refine cFe ‹_› ?_ | refine cN (cTe ‹_› ?_) | refine cN (cFe ‹_› ?_) | refine cTe rfl ?_ | refine cEq ‹_› ?_ | refine cTt ?_ | refine cNt ?_ | refine cF (Eq.refl false) ?_ | refine cN (cF (Eq.refl false) ?_) | refine cTd (by omega) ?_ | refine cFd (by omega) ?_ | refine cN (cTd (by omega) ?_) | refine cN (cFd (by omega) ?_) | refine And.intro (fun hh : Option.isSome none = true => by cases hh) ?_ | refine And.intro (by omega) ?_ | refine And.intro (Eq.refl true) ?_ | refine And.intro (Eq.refl (1 : Nat)) ?_)
  refine ⟨p, 0, ⟨⟨rfl, rfl⟩, uT_01.1.symm, uT_01.2.symm⟩, ?_⟩
  repeat ((conv => whnf) <;> first | with_reducible first | refine wI (by omega) ?_ | refine wB (by omega) ?_ | refine wR (by omega) ?_ | refine wQ (by omega) ?_ | refine And.intro rfl ?_ | rfl | refine And.intro ‹_› ?_ | refine cTe ‹_› ?_ | refine cFe ‹_› ?_ | refine cN (cTe ‹_› ?_) | refine cN (cFe ‹_› ?_) | refine cTe rfl ?_ | refine cEq ‹_› ?_ | refine cTt ?_ | refine cNt ?_ | refine cF (Eq.refl false) ?_ | refine cN (cF (Eq.refl false) ?_) | refine cTd (by omega) ?_ | refine cFd (by omega) ?_ | refine cN (cTd (by omega) ?_) | refine cN (cFd (by omega) ?_) | refine And.intro (fun hh : Option.isSome none = true => by cases hh) ?_ | refine And.intro (by omega) ?_ | refine And.intro (Eq.refl true) ?_ | refine And.intro (Eq.refl (1 : Nat)) ?_)
  refine ⟨p, -p, ⟨⟨rfl, rfl⟩, f2.1.symm, f2.2.symm⟩, ?_⟩
  repeat ((conv => whnf) <;> first | with_reducible first | refine wI (by omega) ?_ | refine wB (by omega) ?_ | refine wR (by omega) ?_ | refine wQ (by omega) ?_ | refine And.intro rfl ?_ | rfl | refine And.intro ‹_› ?_ | refine cTe ‹_› ?_ | refine cFe ‹_› ?_ | refine cN (cTe ‹_› ?_) | refine cN (cFe ‹_› ?_) | refine cTe rfl ?_ | refine cEq ‹_› ?_ | refine cTt ?_ | refine cNt ?_ | refine cF (Eq.refl false) ?_ | refine cN (cF (Eq.refl false) ?_) | refine cTd (by omega) ?_ | refine cFd (by omega) ?_ | refine cN (cTd (by omega) ?_) | refine cN (cFd (by omega) ?_) | refine And.intro (fun hh : Option.isSome none = true => by cases hh) ?_ | refine And.intro (by omega) ?_ | refine And.intro (Eq.refl true) ?_ | refine And.intro (Eq.refl (1 : Nat)) ?_)
set_option maxRecDepth 100000 in
theorem thomes_any (b1 : List Int) (yb1 : By b1) (v1 : Value) (n1 : Int) (r1 : I64 n1) (c1 : List Int) (yc1 : By c1) (u1 : Value) (m1 : Int) (q1 : I64 m1) (b2 : List Int) (yb2 : By b2) (v2 : Value) (n2 : Int) (r2 : I64 n2) (w : World) (s1 : Bv w v1 b1) (z1 : Bv w u1 c1) (s2 : Bv w v2 b2) : Calls Try.prog 5 #[AG [v1, .int .i64 n1, u1, .int .i64 m1], AG [v2, .int .i64 n2]] w (OutV (.bool true) w) :=
  law_tree twP_ok o_thomes [.agg [.one (.var 0), .one (.var 1), .one (.var 2), .one (.var 3)], .agg [.one (.var 4), .one (.var 5)]] [v1, .int .i64 n1, u1, .int .i64 m1, v2, .int .i64 n2] [.isl .u8 b1, .int .i64 n1, .isl .u8 c1, .int .i64 m1, .isl .u8 b2, .int .i64 n2] Try.func5 rfl c_thomes (by simp [Leaf.den, catS, Seg.den, Atom.den, cellsAt, AG, Value.cells]) (by intro x hx; simp only [List.mem_cons, List.not_mem_nil, or_false] at hx; rcases hx with rfl | rfl <;> first | exact ok_four (v := v1) (v' := .int .i64 n1) (u := u1) (u' := .int .i64 m1) rfl (bv_one s1) rfl rfl rfl (bv_one z1) rfl rfl | exact ok_two (v := v2) (v' := .int .i64 n2) rfl (bv_one s2) rfl rfl) ⟨_, _, rfl, bv_val s1, _, _, rfl, int_val n1, _, _, rfl, bv_val z1, _, _, rfl, int_val m1, ⟨_, _, rfl, bv_val s2, _, _, rfl, int_val n2, rfl⟩⟩ g_thomes (aw_thomes b1 yb1 n1 r1 c1 yc1 m1 q1 b2 yb2 n2 r2)
end Go.Proofs.Ytohebkkiicbdoaa
