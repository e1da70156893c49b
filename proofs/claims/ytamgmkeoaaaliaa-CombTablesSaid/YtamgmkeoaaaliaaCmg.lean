/- Chapter 11: CombTables -/
import Derived.Test.YtamgmkeoaaaliaaCma
import Derived.Test.YtamgmkeoaaaliaaCmd
import Derived.Test.YtamgmkeoaaaliaaCme
set_option linter.unusedSimpArgs false
set_option linter.unusedVariables false
namespace Go.Proofs.Ytamgmkeoaaaliaa
open Go.RowKit FdP FdP.Ch
theorem tab_worth {g : G} {t s : Int} {i : Nat} (h1 : 1 ≤ t) (h4 : 1 ≤ s) (h : i < 2 ^ t.toNat) : (tabL (qN g t s) t.toNat).getD i 0 = mulG (nval (woB (apN t s) (apN t s * t.toNat / 8 + 1) i t.toNat)) g := by
  have ha : 1 ≤ apN t s := by
    have : 1 ≤ (8 * s + t - 1) / t := by rw [Int.le_ediv_iff_mul_le (by omega)]; omega
    unfold apN; omega
  obtain ⟨_, h2⟩ := woB_ok (ap := apN t s) (n := apN t s * t.toNat / 8 + 1) (i := i) (t := t.toNat) ha (by omega) t.toNat (Nat.le_refl _)
  have e : nval (woB (apN t s) (apN t s * t.toNat / 8 + 1) i t.toNat) = worN (apN t s) t.toNat i := by unfold nval; rw [h2]; rfl
  rw [tabL_get _ _ _ h, e, ← sumB_wor]
  rfl
theorem worth_by {t s : Int} {i : Nat} (h1 : 1 ≤ t) (h2 : t ≤ 4) (h4 : 1 ≤ s) (h5 : s ≤ 64) : (woB (apN t s) (apN t s * t.toNat / 8 + 1) i t.toNat).length ≤ 1000 ∧ By (woB (apN t s) (apN t s * t.toNat / 8 + 1) i t.toNat) := by
  have ha : 1 ≤ apN t s := by
    have : 1 ≤ (8 * s + t - 1) / t := by rw [Int.le_ediv_iff_mul_le (by omega)]; omega
    unfold apN; omega
  have hb : apN t s ≤ 512 := by
    have : (8 * s + t - 1) / t ≤ 512 := Int.ediv_le_of_le_mul (by omega) (by omega)
    unfold apN; omega
  have hm : apN t s * t.toNat ≤ 512 * 4 := Nat.mul_le_mul hb (by omega)
  exact ⟨by rw [woB_len]; omega, (woB_ok (t := t.toNat) ha (by omega) t.toNat (Nat.le_refl _)).1⟩
theorem zsB {a a' b b' : Int} (h : a = a') (h' : b = b') : [AV.int .i64 a, .int .i64 b] = [.int .i64 a', .int .i64 b'] := by rw [h, h']
def tcN : Tab := tb_awake11 :: tb_made11 :: tb_newT :: tb_tlen :: tb_tlook :: tb_worth11 :: tb_rptimes :: tb_same11 :: []
theorem tcN_ok : tcN.OK Try.prog := tab_cons tb_awake11_ok <| tab_cons tb_made11_ok <| tab_cons tb_newT_ok <| tab_cons tb_tlen_ok <| tab_cons tb_tlook_ok <| tab_cons tb_worth11_ok <| tab_cons tb_rptimes_ok <| tab_cons tb_same11_ok <| tab_nil _
def o_ct0 : Orc := { ans := [(17, .one ⟨.leaf (.agg [.one (.var 0), .one (.var 1)]), 2, []⟩), (18, .two ⟨.tup [.agg [.whole 0 24], .agg [.whole 1 48], .atom (.const (.bool true))], 2, []⟩ ⟨.tup [.agg [.whole 0 24], .agg [.whole 1 48], .atom (.const (.bool false))], 2, []⟩), (23, .one ⟨.leaf (.atom (.var 0)), 1, []⟩), (25, .one ⟨.leaf (.atom (.var 0)), 1, []⟩), (26, .one ⟨.leaf (.atom (.var 0)), 1, []⟩), (27, .two ⟨.leaf (.atom (.const (.bool true))), 0, []⟩ ⟨.leaf (.atom (.const (.bool false))), 0, []⟩), (29, .one ⟨.leaf (.atom (.var 0)), 1, []⟩), (30, .one ⟨.leaf (.atom (.var 0)), 1, []⟩), (31, .two ⟨.leaf (.atom (.const (.bool true))), 0, []⟩ ⟨.leaf (.atom (.const (.bool false))), 0, []⟩), (32, .one ⟨.leaf (.atom (.var 0)), 1, []⟩), (33, .one ⟨.leaf (.atom (.var 0)), 1, []⟩), (35, .one ⟨.leaf (.atom (.var 0)), 1, []⟩), (36, .one ⟨.leaf (.atom (.var 0)), 1, []⟩), (37, .two ⟨.leaf (.atom (.const (.bool true))), 0, []⟩ ⟨.leaf (.atom (.const (.bool false))), 0, []⟩), (39, .one ⟨.leaf (.atom (.var 0)), 1, []⟩), (40, .one ⟨.leaf (.atom (.var 0)), 1, []⟩), (41, .two ⟨.leaf (.atom (.const (.bool true))), 0, []⟩ ⟨.leaf (.atom (.const (.bool false))), 0, []⟩), (42, .one ⟨.leaf (.atom (.var 0)), 1, []⟩), (43, .one ⟨.leaf (.atom (.var 0)), 1, []⟩), (44, .two ⟨.leaf (.atom (.const (.bool true))), 0, []⟩ ⟨.leaf (.atom (.const (.bool false))), 0, []⟩), (46, .one ⟨.leaf (.agg [.whole 0 24]), 1, []⟩), (47, .one ⟨.leaf (.atom (.var 0)), 1, []⟩), (48, .one ⟨.leaf (.atom (.var 0)), 1, []⟩), (49, .one ⟨.leaf (.atom (.var 0)), 1, []⟩), (50, .one ⟨.leaf (.atom (.var 0)), 1, []⟩), (51, .one ⟨.tup [.atom (.var 0), .atom (.var 1)], 2, []⟩), (54, .one ⟨.leaf (.atom (.var 0)), 1, []⟩), (55, .one ⟨.leaf (.atom (.var 0)), 1, []⟩), (56, .two ⟨.leaf (.atom (.const (.bool true))), 0, []⟩ ⟨.leaf (.atom (.const (.bool false))), 0, []⟩), (58, .one ⟨.leaf (.atom (.var 0)), 1, []⟩), (59, .one ⟨.leaf (.atom (.var 0)), 1, []⟩), (60, .two ⟨.leaf (.atom (.const (.bool true))), 0, []⟩ ⟨.leaf (.atom (.const (.bool false))), 0, []⟩), (61, .one ⟨.leaf (.atom (.var 0)), 1, []⟩), (63, .one ⟨.leaf (.atom (.var 0)), 1, []⟩), (64, .one ⟨.leaf (.atom (.var 0)), 1, []⟩), (65, .two ⟨.leaf (.atom (.const (.bool true))), 0, []⟩ ⟨.leaf (.atom (.const (.bool false))), 0, []⟩), (66, .one ⟨.leaf (.atom (.var 0)), 1, []⟩), (68, .one ⟨.leaf (.atom (.var 0)), 1, []⟩), (69, .one ⟨.leaf (.atom (.var 0)), 1, []⟩), (70, .two ⟨.leaf (.atom (.const (.bool true))), 0, []⟩ ⟨.leaf (.atom (.const (.bool false))), 0, []⟩), (71, .one ⟨.leaf (.atom (.var 0)), 1, []⟩), (73, .two ⟨.leaf (.atom (.const (.bool true))), 0, []⟩ ⟨.leaf (.atom (.const (.bool false))), 0, []⟩), (76, .two ⟨.leaf (.atom (.const (.bool true))), 0, []⟩ ⟨.leaf (.atom (.const (.bool false))), 0, []⟩), (77, .one ⟨.leaf (.atom (.var 0)), 1, []⟩), (79, .two ⟨.leaf (.atom (.const (.bool true))), 0, []⟩ ⟨.leaf (.atom (.const (.bool false))), 0, []⟩), (80, .one ⟨.leaf (.atom (.var 0)), 1, []⟩), (82, .one ⟨.leaf (.atom (.var 0)), 1, []⟩), (83, .one ⟨.leaf (.atom (.var 0)), 1, []⟩), (84, .two ⟨.leaf (.atom (.const (.bool true))), 0, []⟩ ⟨.leaf (.atom (.const (.bool false))), 0, []⟩), (88, .one ⟨.leaf (.atom (.var 0)), 1, []⟩), (86, .one ⟨.leaf (.atom (.var 0)), 1, []⟩), (90, .two ⟨.leaf (.atom (.const (.bool true))), 0, []⟩ ⟨.leaf (.atom (.const (.bool false))), 0, []⟩), (93, .two ⟨.leaf (.atom (.const (.bool true))), 0, []⟩ ⟨.leaf (.atom (.const (.bool false))), 0, []⟩), (94, .one ⟨.leaf (.atom (.var 0)), 1, []⟩), (97, .one ⟨.leaf (.atom (.var 0)), 1, []⟩), (99, .two ⟨.leaf (.atom (.const (.bool true))), 0, []⟩ ⟨.leaf (.atom (.const (.bool false))), 0, []⟩), (100, .one ⟨.leaf (.atom (.var 0)), 1, []⟩), (104, .one ⟨.tup [.agg [.whole 0 24], .atom (.var 1)], 2, []⟩), (108, .two ⟨.leaf (.atom (.const (.bool true))), 0, []⟩ ⟨.leaf (.atom (.const (.bool false))), 0, []⟩), (112, .two ⟨.leaf (.atom (.const (.bool true))), 0, []⟩ ⟨.leaf (.atom (.const (.bool false))), 0, []⟩), (113, .one ⟨.leaf (.atom (.var 0)), 1, []⟩), (115, .two ⟨.leaf (.atom (.const (.bool true))), 0, []⟩ ⟨.leaf (.atom (.const (.bool false))), 0, []⟩), (117, .two ⟨.leaf (.atom (.const (.bool true))), 0, []⟩ ⟨.leaf (.atom (.const (.bool false))), 0, []⟩), (118, .one ⟨.leaf (.atom (.var 0)), 1, []⟩), (120, .two ⟨.leaf (.atom (.const (.bool true))), 0, []⟩ ⟨.leaf (.atom (.const (.bool false))), 0, []⟩), (122, .one ⟨.leaf (.agg [.whole 0 24]), 1, []⟩), (124, .one ⟨.leaf (.atom (.var 0)), 1, []⟩), (125, .one ⟨.leaf (.atom (.var 0)), 1, []⟩), (126, .one ⟨.leaf (.atom (.var 0)), 1, []⟩), (127, .one ⟨.leaf (.atom (.var 0)), 1, []⟩), (128, .one ⟨.leaf (.atom (.var 0)), 1, []⟩), (129, .one ⟨.leaf (.agg [.whole 0 48]), 1, []⟩), (130, .one ⟨.leaf (.agg [.whole 0 48]), 1, []⟩), (131, .two ⟨.leaf (.atom (.const (.bool true))), 0, []⟩ ⟨.leaf (.atom (.const (.bool false))), 0, []⟩), (132, .one ⟨.leaf (.atom (.var 0)), 1, []⟩), (134, .two ⟨.leaf (.atom (.const (.bool true))), 0, []⟩ ⟨.leaf (.atom (.const (.bool false))), 0, []⟩), (135, .one ⟨.leaf (.atom (.var 0)), 1, []⟩)], lps := [(0, [.slot 12 [.one], .slot 13 [.one]])], ords := [(17, [.pure 0, .quiet 1, .pure 2, .quiet 3, .pure 4, .quiet 5, .quiet 6, .quiet 7, .quiet 8, .quiet 10, .call 9 [], .call 11 [], .call 12 [], .quiet 13, .pure 14, .call 15 [], .quiet 16, .pure 17])] }
def o_ctA : Orc := { o_ct0 with ans := [(27, .one ⟨.leaf (.atom (.const (.bool false))), 0, []⟩), (37, .one ⟨.leaf (.atom (.const (.bool false))), 0, []⟩), (56, .one ⟨.leaf (.atom (.const (.bool false))), 0, []⟩), (60, .one ⟨.leaf (.atom (.const (.bool false))), 0, []⟩), (65, .one ⟨.leaf (.atom (.const (.bool false))), 0, []⟩), (70, .one ⟨.leaf (.atom (.const (.bool false))), 0, []⟩)] ++ o_ct0.ans }
def t_ctA : Tree :=
  .new <|
  .new <|
  .call2 18 [.agg [.one (.var 0), .one (.var 1)]] ([], []) (.tup [.agg [.whole 5 24], .agg [.whole 6 48], .atom (.const (.bool true))]) 2 [] (
    .new <|
    .new <|
    .calc (.binOp .gtr 3 (.tmp 26) (.const (.int .i64 4)) 3) 4 [(26, .leaf (.atom (.var 2)))] ([], []) (.leaf (.atom (.const (.bool false)))) 0 <|
    .calc (.binOp .gtr 3 (.tmp 36) (.const (.int .i64 8)) 3) 4 [(36, .leaf (.atom (.var 3)))] ([], []) (.leaf (.atom (.const (.bool false)))) 0 <|
    .call 23 [.agg [.whole 5 24], .atom (.var 2), .atom (.var 3)] ([], []) (.tup [.atom (.var 7), .atom (.var 8)]) 2 [] <|
    .calc (.binOp .lss 3 (.tmp 55) (.const (.int .i64 1)) 3) 4 [(55, .leaf (.atom (.var 2)))] ([], []) (.leaf (.atom (.const (.bool false)))) 0 <|
    .calc (.binOp .gtr 3 (.tmp 59) (.const (.int .i64 7)) 3) 4 [(59, .leaf (.atom (.var 2)))] ([], []) (.leaf (.atom (.const (.bool false)))) 0 <|
    .calc (.binOp .lss 3 (.tmp 64) (.const (.int .i64 1)) 3) 4 [(64, .leaf (.atom (.var 3)))] ([], []) (.leaf (.atom (.const (.bool false)))) 0 <|
    .calc (.binOp .gtr 3 (.tmp 69) (.const (.int .i64 64)) 3) 4 [(69, .leaf (.atom (.var 3)))] ([], []) (.leaf (.atom (.const (.bool false)))) 0 <|
    .loop [.atom (.const (.int .i64 1)), .atom (.const (.int .i64 0))] [.one, .one] <|
    .calc2 (.binOp .lss 3 (.tmp 81) (.tmp 83) 3) 4 [(81, .leaf (.atom (.var 10))), (83, .leaf (.atom (.var 2)))] ([], []) (.leaf (.atom (.const (.bool true)))) 0 (
      .calc (.binOp .mul 3 (.const (.int .i64 2)) (.tmp 87) 3) 3 [(87, .leaf (.atom (.var 9)))] ([], []) (.leaf (.atom (.var 11))) 1 <|
      .calc (.binOp .add 3 (.tmp 85) (.const (.int .i64 1)) 3) 3 [(85, .leaf (.atom (.var 10)))] ([], []) (.leaf (.atom (.var 12))) 1 <|
      .again 0 [.atom (.var 11), .atom (.var 12)]) (.leaf (.atom (.const (.bool false)))) 0 <|
    .calc2 (.binOp .neq 33 (.tmp 89) (.const (.int .i64 0)) 33) 4 [(89, .leaf (.atom (.var 8)))] ([], []) (.leaf (.atom (.const (.bool true)))) 0 (
      .ret ([], []) (.leaf (.atom (.const (.bool false))))) (.leaf (.atom (.const (.bool false)))) 0 <|
    .calc2 (.binOp .eql 26 (.tmp 92) (.const (.pointer none)) 26) 4 [(92, .leaf (.atom (.var 7)))] ([], []) (.leaf (.atom (.const (.bool true)))) 0 (
      .ret ([], []) (.leaf (.atom (.const (.bool false))))) (.leaf (.atom (.const (.bool false)))) 0 <|
    .call 13 [.atom (.var 7)] ([], []) (.leaf (.atom (.var 11))) 1 [] <|
    .calc2 (.binOp .neq 3 (.tmp 97) (.tmp 98) 3) 4 [(97, .leaf (.atom (.var 11))), (98, .leaf (.atom (.var 9)))] ([], []) (.leaf (.atom (.const (.bool true)))) 0 (
      .ret ([], []) (.leaf (.atom (.const (.bool false))))) (.leaf (.atom (.const (.bool false)))) 0 <|
    .call 11 [.atom (.var 7), .atom (.var 4)] ([], []) (.tup [.agg [.whole 12 24], .atom (.var 13)]) 2 [] <|
    .new <|
    .calc2 (.binOp .lss 3 (.tmp 107) (.const (.int .i64 0)) 3) 4 [(107, .leaf (.atom (.var 4)))] ([], []) (.leaf (.atom (.const (.bool true)))) 0 (
      .calc2 (.binOp .eql 33 (.tmp 114) (.const (.int .i64 10)) 33) 4 [(114, .leaf (.atom (.var 13)))] ([], []) (.leaf (.atom (.const (.bool true)))) 0 (
        .call2 10 [] ([], []) (.leaf (.atom (.const (.bool true)))) 0 [] (
          .ret ([], []) (.leaf (.atom (.const (.bool true))))) (.leaf (.atom (.const (.bool false)))) 0 [] <|
        .ret ([], []) (.leaf (.atom (.const (.bool false))))) (.leaf (.atom (.const (.bool false)))) 0 <|
      .ret ([], []) (.leaf (.atom (.const (.bool false))))) (.leaf (.atom (.const (.bool false)))) 0 <|
    .calc2 (.binOp .geq 3 (.tmp 110) (.tmp 111) 3) 4 [(110, .leaf (.atom (.var 4))), (111, .leaf (.atom (.var 9)))] ([], []) (.leaf (.atom (.const (.bool true)))) 0 (
      .calc2 (.binOp .eql 33 (.tmp 114) (.const (.int .i64 10)) 33) 4 [(114, .leaf (.atom (.var 13)))] ([], []) (.leaf (.atom (.const (.bool true)))) 0 (
        .call2 10 [] ([], []) (.leaf (.atom (.const (.bool true)))) 0 [] (
          .ret ([], []) (.leaf (.atom (.const (.bool true))))) (.leaf (.atom (.const (.bool false)))) 0 [] <|
        .ret ([], []) (.leaf (.atom (.const (.bool false))))) (.leaf (.atom (.const (.bool false)))) 0 <|
      .ret ([], []) (.leaf (.atom (.const (.bool false))))) (.leaf (.atom (.const (.bool false)))) 0 <|
    .calc2 (.binOp .eql 33 (.tmp 119) (.const (.int .i64 0)) 33) 4 [(119, .leaf (.atom (.var 13)))] ([], []) (.leaf (.atom (.const (.bool true)))) 0 (
      .call 24 [.atom (.var 4), .atom (.var 2), .atom (.var 3)] ([], []) (.leaf (.atom (.var 14))) 1 [] <|
      .call 21 [.atom (.var 14), .agg [.whole 6 48]] ([], []) (.leaf (.agg [.whole 15 48])) 1 [] <|
      .call2 20 [.agg [.whole 12 24], .agg [.whole 15 48]] ([], []) (.leaf (.atom (.const (.bool true)))) 0 [] (
        .call2 10 [] ([], []) (.leaf (.atom (.const (.bool true)))) 0 [] (
          .ret ([], []) (.leaf (.atom (.const (.bool true))))) (.leaf (.atom (.const (.bool false)))) 0 [] <|
        .ret ([], []) (.leaf (.atom (.const (.bool false))))) (.leaf (.atom (.const (.bool false)))) 0 [] <|
      .ret ([], []) (.leaf (.atom (.const (.bool false))))) (.leaf (.atom (.const (.bool false)))) 0 <|
    .ret ([], []) (.leaf (.atom (.const (.bool false))))) (.tup [.agg [.whole 5 24], .agg [.whole 6 48], .atom (.const (.bool false))]) 2 [] <|
  .new <|
  .new <|
  .call2 10 [] ([], []) (.leaf (.atom (.const (.bool true)))) 0 [] (
    .ret ([], []) (.leaf (.atom (.const (.bool true))))) (.leaf (.atom (.const (.bool false)))) 0 [] <|
  .ret ([], []) (.leaf (.atom (.const (.bool false))))
theorem c_ctA : compF Try.prog Try.f7 o_ctA (Try.f7.body.getD .skip) (symIn [.agg [.one (.var 0), .one (.var 1)], .agg [.one (.var 2), .one (.var 3)], .atom (.var 4)] Try.f7.ntmps 5) = some t_ctA := by kernel_rfl
theorem g_ctA : goodC Try.prog o_ctA.ords (Try.f7.body.getD .skip) = true := by kernel_rfl
set_option maxRecDepth 100000 in
set_option maxHeartbeats 1000000 in
theorem aw_ctA (b1 : List Int) (yb1 : By b1) (n1 : Int) (r1 : I64 n1) (n2 : Int) (r2 : I64 n2) (m2 : Int) (q2 : I64 m2) (n3 : Int) (r3 : I64 n3) (h : n2 ≤ 4 ∧ m2 ≤ 8 ∧ 1 ≤ n2 ∧ 1 ≤ m2) : AWp Try.prog tcN (fun a => a = .bool true) t_ctA [] [.isl .u8 b1, .int .i64 n1, .int .i64 n2, .int .i64 m2, .int .i64 n3] := by
  have d27 : decide (4 < n2) = false := decide_eq_false (by omega)
  have d37 : decide (8 < m2) = false := decide_eq_false (by omega)
  have d56 : decide (n2 < 1) = false := decide_eq_false (by omega)
  have d60 : decide (7 < n2) = false := decide_eq_false (by omega)
  have d65 : decide (m2 < 1) = false := decide_eq_false (by omega)
  have d70 : decide (64 < m2) = false := decide_eq_false (by omega)
  (conv => whnf)
  refine ⟨‹_›, fun hh => by repeat ((conv => whnf) <;> first | with_reducible first | refine And.intro rfl ?_ | rfl | refine cTt ?_ | refine cF (Eq.refl false) ?_ | refine cNt ?_ | refine cTd (by omega) ?_ | refine cFd (by omega) ?_), fun k1 k2 k3 => ?_⟩
  generalize sgG b1 n1 = g
  repeat ((conv => whnf) <;> first | with_reducible first | refine And.intro rfl ?_ | rfl | refine cTt ?_ | refine cF (Eq.refl false) ?_ | refine cNt ?_ | refine cTd (by omega) ?_ | refine cFd (by omega) ?_)
  (conv => whnf)
  rw [d27]
  (conv => whnf)
  rw [d37]
  repeat ((conv => whnf) <;> first | with_reducible first | refine wI (by omega) ?_ | refine wB (by omega) ?_ | refine wR (by omega) ?_ | refine wQ (by omega) ?_ | refine And.intro rfl ?_ | rfl | refine And.intro ‹_› ?_ | refine cTe ‹_› ?_ | refine cFe ‹_› ?_ | refine cN (cTe ‹_› ?_) | refine cN (cFe ‹_› ?_) | refine cTe rfl ?_ | refine cEq ‹_› ?_ | refine cTt ?_ | refine cNt ?_ | refine cF (Eq.refl false) ?_ | refine cN (cF (Eq.refl false) ?_) | refine cTd (by omega) ?_ | refine cFd (by omega) ?_ | refine cN (cTd (by omega) ?_) | refine cN (cFd (by omega) ?_) | refine And.intro (fun hh : Option.isSome none = true => by cases hh) ?_ | refine And.intro (by omega) ?_ | refine And.intro (Eq.refl true) ?_ | refine And.intro (Eq.refl (1 : Nat)) ?_)
  intro _ _ _ _
  repeat ((conv => whnf) <;> first | with_reducible first | refine And.intro rfl ?_ | rfl | refine cTt ?_ | refine cF (Eq.refl false) ?_ | refine cNt ?_ | refine cTd (by omega) ?_ | refine cFd (by omega) ?_)
  (conv => whnf)
  rw [d56]
  (conv => whnf)
  rw [d60]
  (conv => whnf)
  rw [d65]
  (conv => whnf)
  rw [d70]
  have hl := tabL_len (qN g n2 m2) n2.toNat
  have hw := fun (h : n3.toNat < 2 ^ n2.toNat) => tab_worth (g := g) (t := n2) (s := m2) (i := n3.toNat) (by omega) (by omega) h
  have hb := worth_by (t := n2) (s := m2) (i := n3.toNat) (by omega) (by omega) (by omega) (by omega)
  have hpl := pts_len (tabL (qN g n2 m2) n2.toNat)
  generalize tabL (qN g n2 m2) n2.toNat = L at *
  repeat ((conv => whnf) <;> first | with_reducible first | refine wI (by omega) ?_ | refine wB (by omega) ?_ | refine wR (by omega) ?_ | refine wQ (by omega) ?_ | refine And.intro rfl ?_ | rfl | refine And.intro ‹_› ?_ | refine cTe ‹_› ?_ | refine cFe ‹_› ?_ | refine cN (cTe ‹_› ?_) | refine cN (cFe ‹_› ?_) | refine cTe rfl ?_ | refine cEq ‹_› ?_ | refine cTt ?_ | refine cNt ?_ | refine cF (Eq.refl false) ?_ | refine cN (cF (Eq.refl false) ?_) | refine cTd (by omega) ?_ | refine cFd (by omega) ?_ | refine cN (cTd (by omega) ?_) | refine cN (cFd (by omega) ?_) | refine And.intro (fun hh : Option.isSome none = true => by cases hh) ?_ | refine And.intro (by omega) ?_ | refine And.intro (Eq.refl true) ?_ | refine And.intro (Eq.refl (1 : Nat)) ?_)
  refine ⟨Nat, fun k zs => k ≤ n2.toNat ∧ zs = [.int .i64 ((2 ^ k : Nat) : Int), .int .i64 (k : Int)], fun k => n2.toNat - k, 0, ?_, ?_⟩
  · (conv => whnf)
    exact ⟨_, Subs.refl' _, Nat.zero_le _, zsB rfl rfl⟩
  rintro k _ ⟨hk, rfl⟩
  have e2 : 2 ^ (k + 1) = 2 * 2 ^ k := by rw [Nat.pow_succ]; omega
  have e7 : 2 ^ k ≤ 2 ^ 7 := Nat.pow_le_pow_right (by omega) (by omega)
  by_cases hlt : (k : Int) < n2
  · generalize 2 ^ k = B at *
    have e8 : B ≤ 128 := e7
    repeat ((conv => whnf) <;> first | with_reducible first | refine wI (by omega) ?_ | refine wB (by omega) ?_ | refine wR (by omega) ?_ | refine wQ (by omega) ?_ | refine And.intro rfl ?_ | rfl | refine And.intro ‹_› ?_ | refine cTe ‹_› ?_ | refine cFe ‹_› ?_ | refine cN (cTe ‹_› ?_) | refine cN (cFe ‹_› ?_) | refine cTe rfl ?_ | refine cEq ‹_› ?_ | refine cTt ?_ | refine cNt ?_ | refine cF (Eq.refl false) ?_ | refine cN (cF (Eq.refl false) ?_) | refine cTd (by omega) ?_ | refine cFd (by omega) ?_ | refine cN (cTd (by omega) ?_) | refine cN (cFd (by omega) ?_) | refine And.intro (fun hh : Option.isSome none = true => by cases hh) ?_ | refine And.intro (by omega) ?_ | refine And.intro (Eq.refl true) ?_ | refine And.intro (Eq.refl (1 : Nat)) ?_)
    (conv => whnf)
    exact ⟨_, Subs.refl' _, k + 1, ⟨by omega, zsB (by rw [e2]; omega) (by omega)⟩, by show n2.toNat - (k + 1) < n2.toNat - k; omega⟩
  · obtain rfl : k = n2.toNat := by omega
    have e8 : 2 ^ n2.toNat ≤ 128 := e7
    generalize 2 ^ n2.toNat = B at *
    repeat ((conv => whnf) <;> first | with_reducible first | refine wI (by omega) ?_ | refine wB (by omega) ?_ | refine wR (by omega) ?_ | refine wQ (by omega) ?_ | refine And.intro rfl ?_ | rfl | refine And.intro ‹_› ?_ | refine cTe ‹_› ?_ | refine cFe ‹_› ?_ | refine cN (cTe ‹_› ?_) | refine cN (cFe ‹_› ?_) | refine cTe rfl ?_ | refine cEq ‹_› ?_ | refine cTt ?_ | refine cNt ?_ | refine cF (Eq.refl false) ?_ | refine cN (cF (Eq.refl false) ?_) | refine cTd (by omega) ?_ | refine cFd (by omega) ?_ | refine cN (cTd (by omega) ?_) | refine cN (cFd (by omega) ?_) | refine And.intro (fun hh : Option.isSome none = true => by cases hh) ?_ | refine And.intro (by omega) ?_ | refine And.intro (Eq.refl true) ?_ | refine And.intro (Eq.refl (1 : Nat)) ?_)
    refine ⟨L, rfl, by omega, fun hh => ?_, fun q1 q2 => ?_⟩
    · by_cases hn : n3 < 0
      · repeat ((conv => whnf) <;> first | with_reducible first | refine wI (by omega) ?_ | refine wB (by omega) ?_ | refine wR (by omega) ?_ | refine wQ (by omega) ?_ | refine And.intro rfl ?_ | rfl | refine And.intro ‹_› ?_ | refine cTe ‹_› ?_ | refine cFe ‹_› ?_ | refine cN (cTe ‹_› ?_) | refine cN (cFe ‹_› ?_) | refine cTe rfl ?_ | refine cEq ‹_› ?_ | refine cTt ?_ | refine cNt ?_ | refine cF (Eq.refl false) ?_ | refine cN (cF (Eq.refl false) ?_) | refine cTd (by omega) ?_ | refine cFd (by omega) ?_ | refine cN (cTd (by omega) ?_) | refine cN (cFd (by omega) ?_) | refine And.intro (fun hh : Option.isSome none = true => by cases hh) ?_ | refine And.intro (by omega) ?_ | refine And.intro (Eq.refl true) ?_ | refine And.intro (Eq.refl (1 : Nat)) ?_)
      · repeat ((conv => whnf) <;> first | with_reducible first | refine wI (by omega) ?_ | refine wB (by omega) ?_ | refine wR (by omega) ?_ | refine wQ (by omega) ?_ | refine And.intro rfl ?_ | rfl | refine And.intro ‹_› ?_ | refine cTe ‹_› ?_ | refine cFe ‹_› ?_ | refine cN (cTe ‹_› ?_) | refine cN (cFe ‹_› ?_) | refine cTe rfl ?_ | refine cEq ‹_› ?_ | refine cTt ?_ | refine cNt ?_ | refine cF (Eq.refl false) ?_ | refine cN (cF (Eq.refl false) ?_) | refine cTd (by omega) ?_ | refine cFd (by omega) ?_ | refine cN (cTd (by omega) ?_) | refine cN (cFd (by omega) ?_) | refine And.intro (fun hh : Option.isSome none = true => by cases hh) ?_ | refine And.intro (by omega) ?_ | refine And.intro (Eq.refl true) ?_ | refine And.intro (Eq.refl (1 : Nat)) ?_)
    · have hw' := hw (by omega)
      have mw : 0 ≤ n3 ∧ I64 n3 ∧ 1 ≤ n2 ∧ n2 ≤ 4 ∧ 1 ≤ m2 ∧ m2 ≤ 64 := ⟨q1, r3, by omega, by omega, by omega, by omega⟩
      repeat ((conv => whnf) <;> first | with_reducible first | refine wI (by omega) ?_ | refine wB (by omega) ?_ | refine wR (by omega) ?_ | refine wQ (by omega) ?_ | refine And.intro rfl ?_ | rfl | refine And.intro ‹_› ?_ | refine cTe ‹_› ?_ | refine cFe ‹_› ?_ | refine cN (cTe ‹_› ?_) | refine cN (cFe ‹_› ?_) | refine cTe rfl ?_ | refine cEq ‹_› ?_ | refine cTt ?_ | refine cNt ?_ | refine cF (Eq.refl false) ?_ | refine cN (cF (Eq.refl false) ?_) | refine cTd (by omega) ?_ | refine cFd (by omega) ?_ | refine cN (cTd (by omega) ?_) | refine cN (cFd (by omega) ?_) | refine And.intro (fun hh : Option.isSome none = true => by cases hh) ?_ | refine And.intro (by omega) ?_ | refine And.intro (Eq.refl true) ?_ | refine And.intro (Eq.refl (1 : Nat)) ?_)
      refine ⟨fun _ => by repeat ((conv => whnf) <;> first | with_reducible first | refine wI (by omega) ?_ | refine wB (by omega) ?_ | refine wR (by omega) ?_ | refine wQ (by omega) ?_ | refine And.intro rfl ?_ | rfl | refine And.intro ‹_› ?_ | refine cTe ‹_› ?_ | refine cFe ‹_› ?_ | refine cN (cTe ‹_› ?_) | refine cN (cFe ‹_› ?_) | refine cTe rfl ?_ | refine cEq ‹_› ?_ | refine cTt ?_ | refine cNt ?_ | refine cF (Eq.refl false) ?_ | refine cN (cF (Eq.refl false) ?_) | refine cTd (by omega) ?_ | refine cFd (by omega) ?_ | refine cN (cTd (by omega) ?_) | refine cN (cFd (by omega) ?_) | refine And.intro (fun hh : Option.isSome none = true => by cases hh) ?_ | refine And.intro (by omega) ?_ | refine And.intro (Eq.refl true) ?_ | refine And.intro (Eq.refl (1 : Nat)) ?_), fun hh => absurd hw' hh⟩
set_option maxRecDepth 100000 in
theorem ctA_any (b1 : List Int) (yb1 : By b1) (v1 : Value) (n1 : Int) (r1 : I64 n1) (n2 : Int) (r2 : I64 n2) (m2 : Int) (q2 : I64 m2) (n3 : Int) (r3 : I64 n3) (h : n2 ≤ 4 ∧ m2 ≤ 8 ∧ 1 ≤ n2 ∧ 1 ≤ m2) (w : World) (s1 : Bv w v1 b1) : Calls Try.prog 7 #[AG [v1, .int .i64 n1], AG [.int .i64 n2, .int .i64 m2], .int .i64 n3] w (OutV (.bool true) w) :=
  law_tree tcN_ok o_ctA [.agg [.one (.var 0), .one (.var 1)], .agg [.one (.var 2), .one (.var 3)], .atom (.var 4)] [v1, .int .i64 n1, .int .i64 n2, .int .i64 m2, .int .i64 n3] [.isl .u8 b1, .int .i64 n1, .int .i64 n2, .int .i64 m2, .int .i64 n3] Try.func7 rfl c_ctA (by simp [Leaf.den, catS, Seg.den, Atom.den, cellsAt, AG, Value.cells]) (by intro x hx; simp only [List.mem_cons, List.not_mem_nil, or_false] at hx; rcases hx with rfl | rfl | rfl <;> first | exact ok_two rfl (bv_one s1) rfl rfl | exact ok_two rfl rfl rfl rfl | exact ok_one rfl rfl) ⟨_, _, rfl, bv_val s1, _, _, rfl, int_val n1, ⟨_, _, rfl, int_val n2, _, _, rfl, int_val m2, ⟨_, _, rfl, int_val n3, rfl⟩⟩⟩ g_ctA (aw_ctA b1 yb1 n1 r1 n2 r2 m2 q2 n3 r3 h)
def o_ctA1 : Orc := { o_ct0 with ans := [(27, .one ⟨.leaf (.atom (.const (.bool false))), 0, []⟩), (37, .one ⟨.leaf (.atom (.const (.bool false))), 0, []⟩), (56, .one ⟨.leaf (.atom (.const (.bool true))), 0, []⟩)] ++ o_ct0.ans }
def t_ctA1 : Tree :=
  .new <|
  .new <|
  .call2 18 [.agg [.one (.var 0), .one (.var 1)]] ([], []) (.tup [.agg [.whole 5 24], .agg [.whole 6 48], .atom (.const (.bool true))]) 2 [] (
    .new <|
    .new <|
    .calc (.binOp .gtr 3 (.tmp 26) (.const (.int .i64 4)) 3) 4 [(26, .leaf (.atom (.var 2)))] ([], []) (.leaf (.atom (.const (.bool false)))) 0 <|
    .calc (.binOp .gtr 3 (.tmp 36) (.const (.int .i64 8)) 3) 4 [(36, .leaf (.atom (.var 3)))] ([], []) (.leaf (.atom (.const (.bool false)))) 0 <|
    .call 23 [.agg [.whole 5 24], .atom (.var 2), .atom (.var 3)] ([], []) (.tup [.atom (.var 7), .atom (.var 8)]) 2 [] <|
    .calc (.binOp .lss 3 (.tmp 55) (.const (.int .i64 1)) 3) 4 [(55, .leaf (.atom (.var 2)))] ([], []) (.leaf (.atom (.const (.bool true)))) 0 <|
    .calc2 (.binOp .eql 26 (.tmp 72) (.const (.pointer none)) 26) 4 [(72, .leaf (.atom (.var 7)))] ([], []) (.leaf (.atom (.const (.bool true)))) 0 (
      .calc2 (.binOp .eql 33 (.tmp 75) (.const (.int .i64 10)) 33) 4 [(75, .leaf (.atom (.var 8)))] ([], []) (.leaf (.atom (.const (.bool true)))) 0 (
        .call2 10 [] ([], []) (.leaf (.atom (.const (.bool true)))) 0 [] (
          .ret ([], []) (.leaf (.atom (.const (.bool true))))) (.leaf (.atom (.const (.bool false)))) 0 [] <|
        .ret ([], []) (.leaf (.atom (.const (.bool false))))) (.leaf (.atom (.const (.bool false)))) 0 <|
      .ret ([], []) (.leaf (.atom (.const (.bool false))))) (.leaf (.atom (.const (.bool false)))) 0 <|
    .ret ([], []) (.leaf (.atom (.const (.bool false))))) (.tup [.agg [.whole 5 24], .agg [.whole 6 48], .atom (.const (.bool false))]) 2 [] <|
  .new <|
  .new <|
  .call2 10 [] ([], []) (.leaf (.atom (.const (.bool true)))) 0 [] (
    .ret ([], []) (.leaf (.atom (.const (.bool true))))) (.leaf (.atom (.const (.bool false)))) 0 [] <|
  .ret ([], []) (.leaf (.atom (.const (.bool false))))
theorem c_ctA1 : compF Try.prog Try.f7 o_ctA1 (Try.f7.body.getD .skip) (symIn [.agg [.one (.var 0), .one (.var 1)], .agg [.one (.var 2), .one (.var 3)], .atom (.var 4)] Try.f7.ntmps 5) = some t_ctA1 := by kernel_rfl
theorem g_ctA1 : goodC Try.prog o_ctA1.ords (Try.f7.body.getD .skip) = true := by kernel_rfl
set_option maxRecDepth 100000 in
set_option maxHeartbeats 1000000 in
theorem aw_ctA1 (b1 : List Int) (yb1 : By b1) (n1 : Int) (r1 : I64 n1) (n2 : Int) (r2 : I64 n2) (m2 : Int) (q2 : I64 m2) (n3 : Int) (r3 : I64 n3) (h : n2 < 1 ∧ m2 ≤ 8) : AWp Try.prog tcN (fun a => a = .bool true) t_ctA1 [] [.isl .u8 b1, .int .i64 n1, .int .i64 n2, .int .i64 m2, .int .i64 n3] := by
  have d27 : decide (4 < n2) = false := decide_eq_false (by omega)
  have d37 : decide (8 < m2) = false := decide_eq_false (by omega)
  have d56 : decide (n2 < 1) = true := decide_eq_true (by omega)
  (conv => whnf)
  refine ⟨‹_›, fun hh => by repeat ((conv => whnf) <;> first | with_reducible first | refine And.intro rfl ?_ | rfl | refine cTt ?_ | refine cF (Eq.refl false) ?_ | refine cNt ?_ | refine cTd (by omega) ?_ | refine cFd (by omega) ?_), fun k1 k2 k3 => ?_⟩
  generalize sgG b1 n1 = g
  repeat ((conv => whnf) <;> first | with_reducible first | refine And.intro rfl ?_ | rfl | refine cTt ?_ | refine cF (Eq.refl false) ?_ | refine cNt ?_ | refine cTd (by omega) ?_ | refine cFd (by omega) ?_)
  (conv => whnf)
  rw [d27]
  (conv => whnf)
  rw [d37]
  (conv => whnf)
  refine ⟨fun _ => ?_, fun _ _ _ _ => by omega⟩
  repeat ((conv => whnf) <;> first | with_reducible first | refine And.intro rfl ?_ | rfl | refine cTt ?_ | refine cF (Eq.refl false) ?_ | refine cNt ?_ | refine cTd (by omega) ?_ | refine cFd (by omega) ?_)
  (conv => whnf)
  rw [d56]
  repeat ((conv => whnf) <;> first | with_reducible first | refine And.intro rfl ?_ | rfl | refine cTt ?_ | refine cF (Eq.refl false) ?_ | refine cNt ?_ | refine cTd (by omega) ?_ | refine cFd (by omega) ?_)
set_option maxRecDepth 100000 in
theorem ctA1_any (b1 : List Int) (yb1 : By b1) (v1 : Value) (n1 : Int) (r1 : I64 n1) (n2 : Int) (r2 : I64 n2) (m2 : Int) (q2 : I64 m2) (n3 : Int) (r3 : I64 n3) (h : n2 < 1 ∧ m2 ≤ 8) (w : World) (s1 : Bv w v1 b1) : Calls Try.prog 7 #[AG [v1, .int .i64 n1], AG [.int .i64 n2, .int .i64 m2], .int .i64 n3] w (OutV (.bool true) w) :=
  law_tree tcN_ok o_ctA1 [.agg [.one (.var 0), .one (.var 1)], .agg [.one (.var 2), .one (.var 3)], .atom (.var 4)] [v1, .int .i64 n1, .int .i64 n2, .int .i64 m2, .int .i64 n3] [.isl .u8 b1, .int .i64 n1, .int .i64 n2, .int .i64 m2, .int .i64 n3] Try.func7 rfl c_ctA1 (by simp [Leaf.den, catS, Seg.den, Atom.den, cellsAt, AG, Value.cells]) (by intro x hx; simp only [List.mem_cons, List.not_mem_nil, or_false] at hx; rcases hx with rfl | rfl | rfl <;> first | exact ok_two rfl (bv_one s1) rfl rfl | exact ok_two rfl rfl rfl rfl | exact ok_one rfl rfl) ⟨_, _, rfl, bv_val s1, _, _, rfl, int_val n1, ⟨_, _, rfl, int_val n2, _, _, rfl, int_val m2, ⟨_, _, rfl, int_val n3, rfl⟩⟩⟩ g_ctA1 (aw_ctA1 b1 yb1 n1 r1 n2 r2 m2 q2 n3 r3 h)
def o_ctA2 : Orc := { o_ct0 with ans := [(27, .one ⟨.leaf (.atom (.const (.bool false))), 0, []⟩), (37, .one ⟨.leaf (.atom (.const (.bool false))), 0, []⟩), (56, .one ⟨.leaf (.atom (.const (.bool false))), 0, []⟩), (60, .one ⟨.leaf (.atom (.const (.bool false))), 0, []⟩), (65, .one ⟨.leaf (.atom (.const (.bool true))), 0, []⟩)] ++ o_ct0.ans }
def t_ctA2 : Tree :=
  .new <|
  .new <|
  .call2 18 [.agg [.one (.var 0), .one (.var 1)]] ([], []) (.tup [.agg [.whole 5 24], .agg [.whole 6 48], .atom (.const (.bool true))]) 2 [] (
    .new <|
    .new <|
    .calc (.binOp .gtr 3 (.tmp 26) (.const (.int .i64 4)) 3) 4 [(26, .leaf (.atom (.var 2)))] ([], []) (.leaf (.atom (.const (.bool false)))) 0 <|
    .calc (.binOp .gtr 3 (.tmp 36) (.const (.int .i64 8)) 3) 4 [(36, .leaf (.atom (.var 3)))] ([], []) (.leaf (.atom (.const (.bool false)))) 0 <|
    .call 23 [.agg [.whole 5 24], .atom (.var 2), .atom (.var 3)] ([], []) (.tup [.atom (.var 7), .atom (.var 8)]) 2 [] <|
    .calc (.binOp .lss 3 (.tmp 55) (.const (.int .i64 1)) 3) 4 [(55, .leaf (.atom (.var 2)))] ([], []) (.leaf (.atom (.const (.bool false)))) 0 <|
    .calc (.binOp .gtr 3 (.tmp 59) (.const (.int .i64 7)) 3) 4 [(59, .leaf (.atom (.var 2)))] ([], []) (.leaf (.atom (.const (.bool false)))) 0 <|
    .calc (.binOp .lss 3 (.tmp 64) (.const (.int .i64 1)) 3) 4 [(64, .leaf (.atom (.var 3)))] ([], []) (.leaf (.atom (.const (.bool true)))) 0 <|
    .calc2 (.binOp .eql 26 (.tmp 72) (.const (.pointer none)) 26) 4 [(72, .leaf (.atom (.var 7)))] ([], []) (.leaf (.atom (.const (.bool true)))) 0 (
      .calc2 (.binOp .eql 33 (.tmp 75) (.const (.int .i64 10)) 33) 4 [(75, .leaf (.atom (.var 8)))] ([], []) (.leaf (.atom (.const (.bool true)))) 0 (
        .call2 10 [] ([], []) (.leaf (.atom (.const (.bool true)))) 0 [] (
          .ret ([], []) (.leaf (.atom (.const (.bool true))))) (.leaf (.atom (.const (.bool false)))) 0 [] <|
        .ret ([], []) (.leaf (.atom (.const (.bool false))))) (.leaf (.atom (.const (.bool false)))) 0 <|
      .ret ([], []) (.leaf (.atom (.const (.bool false))))) (.leaf (.atom (.const (.bool false)))) 0 <|
    .ret ([], []) (.leaf (.atom (.const (.bool false))))) (.tup [.agg [.whole 5 24], .agg [.whole 6 48], .atom (.const (.bool false))]) 2 [] <|
  .new <|
  .new <|
  .call2 10 [] ([], []) (.leaf (.atom (.const (.bool true)))) 0 [] (
    .ret ([], []) (.leaf (.atom (.const (.bool true))))) (.leaf (.atom (.const (.bool false)))) 0 [] <|
  .ret ([], []) (.leaf (.atom (.const (.bool false))))
theorem c_ctA2 : compF Try.prog Try.f7 o_ctA2 (Try.f7.body.getD .skip) (symIn [.agg [.one (.var 0), .one (.var 1)], .agg [.one (.var 2), .one (.var 3)], .atom (.var 4)] Try.f7.ntmps 5) = some t_ctA2 := by kernel_rfl
theorem g_ctA2 : goodC Try.prog o_ctA2.ords (Try.f7.body.getD .skip) = true := by kernel_rfl
set_option maxRecDepth 100000 in
set_option maxHeartbeats 1000000 in
theorem aw_ctA2 (b1 : List Int) (yb1 : By b1) (n1 : Int) (r1 : I64 n1) (n2 : Int) (r2 : I64 n2) (m2 : Int) (q2 : I64 m2) (n3 : Int) (r3 : I64 n3) (h : 1 ≤ n2 ∧ n2 ≤ 4 ∧ m2 < 1) : AWp Try.prog tcN (fun a => a = .bool true) t_ctA2 [] [.isl .u8 b1, .int .i64 n1, .int .i64 n2, .int .i64 m2, .int .i64 n3] := by
  have d27 : decide (4 < n2) = false := decide_eq_false (by omega)
  have d37 : decide (8 < m2) = false := decide_eq_false (by omega)
  have d56 : decide (n2 < 1) = false := decide_eq_false (by omega)
  have d60 : decide (7 < n2) = false := decide_eq_false (by omega)
  have d65 : decide (m2 < 1) = true := decide_eq_true (by omega)
  (conv => whnf)
  refine ⟨‹_›, fun hh => by repeat ((conv => whnf) <;> first | with_reducible first | refine And.intro rfl ?_ | rfl | refine cTt ?_ | refine cF (Eq.refl false) ?_ | refine cNt ?_ | refine cTd (by omega) ?_ | refine cFd (by omega) ?_), fun k1 k2 k3 => ?_⟩
  generalize sgG b1 n1 = g
  repeat ((conv => whnf) <;> first | with_reducible first | refine And.intro rfl ?_ | rfl | refine cTt ?_ | refine cF (Eq.refl false) ?_ | refine cNt ?_ | refine cTd (by omega) ?_ | refine cFd (by omega) ?_)
  (conv => whnf)
  rw [d27]
  (conv => whnf)
  rw [d37]
  (conv => whnf)
  refine ⟨fun _ => ?_, fun _ _ _ _ => by omega⟩
  repeat ((conv => whnf) <;> first | with_reducible first | refine And.intro rfl ?_ | rfl | refine cTt ?_ | refine cF (Eq.refl false) ?_ | refine cNt ?_ | refine cTd (by omega) ?_ | refine cFd (by omega) ?_)
  (conv => whnf)
  rw [d56]
  (conv => whnf)
  rw [d60]
  (conv => whnf)
  rw [d65]
  repeat ((conv => whnf) <;> first | with_reducible first | refine And.intro rfl ?_ | rfl | refine cTt ?_ | refine cF (Eq.refl false) ?_ | refine cNt ?_ | refine cTd (by omega) ?_ | refine cFd (by omega) ?_)
set_option maxRecDepth 100000 in
theorem ctA2_any (b1 : List Int) (yb1 : By b1) (v1 : Value) (n1 : Int) (r1 : I64 n1) (n2 : Int) (r2 : I64 n2) (m2 : Int) (q2 : I64 m2) (n3 : Int) (r3 : I64 n3) (h : 1 ≤ n2 ∧ n2 ≤ 4 ∧ m2 < 1) (w : World) (s1 : Bv w v1 b1) : Calls Try.prog 7 #[AG [v1, .int .i64 n1], AG [.int .i64 n2, .int .i64 m2], .int .i64 n3] w (OutV (.bool true) w) :=
  law_tree tcN_ok o_ctA2 [.agg [.one (.var 0), .one (.var 1)], .agg [.one (.var 2), .one (.var 3)], .atom (.var 4)] [v1, .int .i64 n1, .int .i64 n2, .int .i64 m2, .int .i64 n3] [.isl .u8 b1, .int .i64 n1, .int .i64 n2, .int .i64 m2, .int .i64 n3] Try.func7 rfl c_ctA2 (by simp [Leaf.den, catS, Seg.den, Atom.den, cellsAt, AG, Value.cells]) (by intro x hx; simp only [List.mem_cons, List.not_mem_nil, or_false] at hx; rcases hx with rfl | rfl | rfl <;> first | exact ok_two rfl (bv_one s1) rfl rfl | exact ok_two rfl rfl rfl rfl | exact ok_one rfl rfl) ⟨_, _, rfl, bv_val s1, _, _, rfl, int_val n1, ⟨_, _, rfl, int_val n2, _, _, rfl, int_val m2, ⟨_, _, rfl, int_val n3, rfl⟩⟩⟩ g_ctA2 (aw_ctA2 b1 yb1 n1 r1 n2 r2 m2 q2 n3 r3 h)
def o_ctE : Orc := { o_ct0 with ans := [(27, .one ⟨.leaf (.atom (.const (.bool true))), 0, []⟩), (31, .one ⟨.leaf (.atom (.const (.bool true))), 0, []⟩)] ++ o_ct0.ans }
def t_ctE : Tree :=
  .new <|
  .new <|
  .call2 18 [.agg [.one (.var 0), .one (.var 1)]] ([], []) (.tup [.agg [.whole 5 24], .agg [.whole 6 48], .atom (.const (.bool true))]) 2 [] (
    .new <|
    .new <|
    .calc (.binOp .gtr 3 (.tmp 26) (.const (.int .i64 4)) 3) 4 [(26, .leaf (.atom (.var 2)))] ([], []) (.leaf (.atom (.const (.bool true)))) 0 <|
    .calc (.binOp .leq 3 (.tmp 30) (.const (.int .i64 7)) 3) 4 [(30, .leaf (.atom (.var 2)))] ([], []) (.leaf (.atom (.const (.bool true)))) 0 <|
    .call2 10 [] ([], []) (.leaf (.atom (.const (.bool true)))) 0 [] (
      .ret ([], []) (.leaf (.atom (.const (.bool true))))) (.leaf (.atom (.const (.bool false)))) 0 [] <|
    .ret ([], []) (.leaf (.atom (.const (.bool false))))) (.tup [.agg [.whole 5 24], .agg [.whole 6 48], .atom (.const (.bool false))]) 2 [] <|
  .new <|
  .new <|
  .call2 10 [] ([], []) (.leaf (.atom (.const (.bool true)))) 0 [] (
    .ret ([], []) (.leaf (.atom (.const (.bool true))))) (.leaf (.atom (.const (.bool false)))) 0 [] <|
  .ret ([], []) (.leaf (.atom (.const (.bool false))))
theorem c_ctE : compF Try.prog Try.f7 o_ctE (Try.f7.body.getD .skip) (symIn [.agg [.one (.var 0), .one (.var 1)], .agg [.one (.var 2), .one (.var 3)], .atom (.var 4)] Try.f7.ntmps 5) = some t_ctE := by kernel_rfl
theorem g_ctE : goodC Try.prog o_ctE.ords (Try.f7.body.getD .skip) = true := by kernel_rfl
set_option maxRecDepth 100000 in
set_option maxHeartbeats 1000000 in
theorem aw_ctE (b1 : List Int) (yb1 : By b1) (n1 : Int) (r1 : I64 n1) (n2 : Int) (r2 : I64 n2) (m2 : Int) (q2 : I64 m2) (n3 : Int) (r3 : I64 n3) (h : 4 < n2 ∧ n2 ≤ 7) : AWp Try.prog tcN (fun a => a = .bool true) t_ctE [] [.isl .u8 b1, .int .i64 n1, .int .i64 n2, .int .i64 m2, .int .i64 n3] := by
  have d27 : decide (4 < n2) = true := decide_eq_true (by omega)
  have d31 : decide (n2 ≤ 7) = true := decide_eq_true (by omega)
  (conv => whnf)
  refine ⟨‹_›, fun hh => by repeat ((conv => whnf) <;> first | with_reducible first | refine And.intro rfl ?_ | rfl | refine cTt ?_ | refine cF (Eq.refl false) ?_ | refine cNt ?_ | refine cTd (by omega) ?_ | refine cFd (by omega) ?_), fun k1 k2 k3 => ?_⟩
  generalize sgG b1 n1 = g
  repeat ((conv => whnf) <;> first | with_reducible first | refine And.intro rfl ?_ | rfl | refine cTt ?_ | refine cF (Eq.refl false) ?_ | refine cNt ?_ | refine cTd (by omega) ?_ | refine cFd (by omega) ?_)
  (conv => whnf)
  rw [d27]
  (conv => whnf)
  rw [d31]
  repeat ((conv => whnf) <;> first | with_reducible first | refine And.intro rfl ?_ | rfl | refine cTt ?_ | refine cF (Eq.refl false) ?_ | refine cNt ?_ | refine cTd (by omega) ?_ | refine cFd (by omega) ?_)
set_option maxRecDepth 100000 in
theorem ctE_any (b1 : List Int) (yb1 : By b1) (v1 : Value) (n1 : Int) (r1 : I64 n1) (n2 : Int) (r2 : I64 n2) (m2 : Int) (q2 : I64 m2) (n3 : Int) (r3 : I64 n3) (h : 4 < n2 ∧ n2 ≤ 7) (w : World) (s1 : Bv w v1 b1) : Calls Try.prog 7 #[AG [v1, .int .i64 n1], AG [.int .i64 n2, .int .i64 m2], .int .i64 n3] w (OutV (.bool true) w) :=
  law_tree tcN_ok o_ctE [.agg [.one (.var 0), .one (.var 1)], .agg [.one (.var 2), .one (.var 3)], .atom (.var 4)] [v1, .int .i64 n1, .int .i64 n2, .int .i64 m2, .int .i64 n3] [.isl .u8 b1, .int .i64 n1, .int .i64 n2, .int .i64 m2, .int .i64 n3] Try.func7 rfl c_ctE (by simp [Leaf.den, catS, Seg.den, Atom.den, cellsAt, AG, Value.cells]) (by intro x hx; simp only [List.mem_cons, List.not_mem_nil, or_false] at hx; rcases hx with rfl | rfl | rfl <;> first | exact ok_two rfl (bv_one s1) rfl rfl | exact ok_two rfl rfl rfl rfl | exact ok_one rfl rfl) ⟨_, _, rfl, bv_val s1, _, _, rfl, int_val n1, ⟨_, _, rfl, int_val n2, _, _, rfl, int_val m2, ⟨_, _, rfl, int_val n3, rfl⟩⟩⟩ g_ctE (aw_ctE b1 yb1 n1 r1 n2 r2 m2 q2 n3 r3 h)
def o_ctG : Orc := { o_ct0 with ans := [(27, .one ⟨.leaf (.atom (.const (.bool false))), 0, []⟩), (37, .one ⟨.leaf (.atom (.const (.bool true))), 0, []⟩), (41, .one ⟨.leaf (.atom (.const (.bool true))), 0, []⟩)] ++ o_ct0.ans }
def t_ctG : Tree :=
  .new <|
  .new <|
  .call2 18 [.agg [.one (.var 0), .one (.var 1)]] ([], []) (.tup [.agg [.whole 5 24], .agg [.whole 6 48], .atom (.const (.bool true))]) 2 [] (
    .new <|
    .new <|
    .calc (.binOp .gtr 3 (.tmp 26) (.const (.int .i64 4)) 3) 4 [(26, .leaf (.atom (.var 2)))] ([], []) (.leaf (.atom (.const (.bool false)))) 0 <|
    .calc (.binOp .gtr 3 (.tmp 36) (.const (.int .i64 8)) 3) 4 [(36, .leaf (.atom (.var 3)))] ([], []) (.leaf (.atom (.const (.bool true)))) 0 <|
    .calc (.binOp .leq 3 (.tmp 40) (.const (.int .i64 64)) 3) 4 [(40, .leaf (.atom (.var 3)))] ([], []) (.leaf (.atom (.const (.bool true)))) 0 <|
    .call2 10 [] ([], []) (.leaf (.atom (.const (.bool true)))) 0 [] (
      .ret ([], []) (.leaf (.atom (.const (.bool true))))) (.leaf (.atom (.const (.bool false)))) 0 [] <|
    .ret ([], []) (.leaf (.atom (.const (.bool false))))) (.tup [.agg [.whole 5 24], .agg [.whole 6 48], .atom (.const (.bool false))]) 2 [] <|
  .new <|
  .new <|
  .call2 10 [] ([], []) (.leaf (.atom (.const (.bool true)))) 0 [] (
    .ret ([], []) (.leaf (.atom (.const (.bool true))))) (.leaf (.atom (.const (.bool false)))) 0 [] <|
  .ret ([], []) (.leaf (.atom (.const (.bool false))))
theorem c_ctG : compF Try.prog Try.f7 o_ctG (Try.f7.body.getD .skip) (symIn [.agg [.one (.var 0), .one (.var 1)], .agg [.one (.var 2), .one (.var 3)], .atom (.var 4)] Try.f7.ntmps 5) = some t_ctG := by kernel_rfl
theorem g_ctG : goodC Try.prog o_ctG.ords (Try.f7.body.getD .skip) = true := by kernel_rfl
set_option maxRecDepth 100000 in
set_option maxHeartbeats 1000000 in
theorem aw_ctG (b1 : List Int) (yb1 : By b1) (n1 : Int) (r1 : I64 n1) (n2 : Int) (r2 : I64 n2) (m2 : Int) (q2 : I64 m2) (n3 : Int) (r3 : I64 n3) (h : n2 ≤ 4 ∧ 8 < m2 ∧ m2 ≤ 64) : AWp Try.prog tcN (fun a => a = .bool true) t_ctG [] [.isl .u8 b1, .int .i64 n1, .int .i64 n2, .int .i64 m2, .int .i64 n3] := by
  have d27 : decide (4 < n2) = false := decide_eq_false (by omega)
  have d37 : decide (8 < m2) = true := decide_eq_true (by omega)
  have d41 : decide (m2 ≤ 64) = true := decide_eq_true (by omega)
  (conv => whnf)
  refine ⟨‹_›, fun hh => by repeat ((conv => whnf) <;> first | with_reducible first | refine And.intro rfl ?_ | rfl | refine cTt ?_ | refine cF (Eq.refl false) ?_ | refine cNt ?_ | refine cTd (by omega) ?_ | refine cFd (by omega) ?_), fun k1 k2 k3 => ?_⟩
  generalize sgG b1 n1 = g
  repeat ((conv => whnf) <;> first | with_reducible first | refine And.intro rfl ?_ | rfl | refine cTt ?_ | refine cF (Eq.refl false) ?_ | refine cNt ?_ | refine cTd (by omega) ?_ | refine cFd (by omega) ?_)
  (conv => whnf)
  rw [d27]
  (conv => whnf)
  rw [d37]
  (conv => whnf)
  rw [d41]
  repeat ((conv => whnf) <;> first | with_reducible first | refine And.intro rfl ?_ | rfl | refine cTt ?_ | refine cF (Eq.refl false) ?_ | refine cNt ?_ | refine cTd (by omega) ?_ | refine cFd (by omega) ?_)
set_option maxRecDepth 100000 in
theorem ctG_any (b1 : List Int) (yb1 : By b1) (v1 : Value) (n1 : Int) (r1 : I64 n1) (n2 : Int) (r2 : I64 n2) (m2 : Int) (q2 : I64 m2) (n3 : Int) (r3 : I64 n3) (h : n2 ≤ 4 ∧ 8 < m2 ∧ m2 ≤ 64) (w : World) (s1 : Bv w v1 b1) : Calls Try.prog 7 #[AG [v1, .int .i64 n1], AG [.int .i64 n2, .int .i64 m2], .int .i64 n3] w (OutV (.bool true) w) :=
  law_tree tcN_ok o_ctG [.agg [.one (.var 0), .one (.var 1)], .agg [.one (.var 2), .one (.var 3)], .atom (.var 4)] [v1, .int .i64 n1, .int .i64 n2, .int .i64 m2, .int .i64 n3] [.isl .u8 b1, .int .i64 n1, .int .i64 n2, .int .i64 m2, .int .i64 n3] Try.func7 rfl c_ctG (by simp [Leaf.den, catS, Seg.den, Atom.den, cellsAt, AG, Value.cells]) (by intro x hx; simp only [List.mem_cons, List.not_mem_nil, or_false] at hx; rcases hx with rfl | rfl | rfl <;> first | exact ok_two rfl (bv_one s1) rfl rfl | exact ok_two rfl rfl rfl rfl | exact ok_one rfl rfl) ⟨_, _, rfl, bv_val s1, _, _, rfl, int_val n1, ⟨_, _, rfl, int_val n2, _, _, rfl, int_val m2, ⟨_, _, rfl, int_val n3, rfl⟩⟩⟩ g_ctG (aw_ctG b1 yb1 n1 r1 n2 r2 m2 q2 n3 r3 h)
def o_ctH : Orc := { o_ct0 with ans := [(27, .one ⟨.leaf (.atom (.const (.bool true))), 0, []⟩), (31, .one ⟨.leaf (.atom (.const (.bool false))), 0, []⟩), (37, .one ⟨.leaf (.atom (.const (.bool true))), 0, []⟩), (41, .one ⟨.leaf (.atom (.const (.bool true))), 0, []⟩)] ++ o_ct0.ans }
def t_ctH : Tree :=
  .new <|
  .new <|
  .call2 18 [.agg [.one (.var 0), .one (.var 1)]] ([], []) (.tup [.agg [.whole 5 24], .agg [.whole 6 48], .atom (.const (.bool true))]) 2 [] (
    .new <|
    .new <|
    .calc (.binOp .gtr 3 (.tmp 26) (.const (.int .i64 4)) 3) 4 [(26, .leaf (.atom (.var 2)))] ([], []) (.leaf (.atom (.const (.bool true)))) 0 <|
    .calc (.binOp .leq 3 (.tmp 30) (.const (.int .i64 7)) 3) 4 [(30, .leaf (.atom (.var 2)))] ([], []) (.leaf (.atom (.const (.bool false)))) 0 <|
    .calc (.binOp .gtr 3 (.tmp 36) (.const (.int .i64 8)) 3) 4 [(36, .leaf (.atom (.var 3)))] ([], []) (.leaf (.atom (.const (.bool true)))) 0 <|
    .calc (.binOp .leq 3 (.tmp 40) (.const (.int .i64 64)) 3) 4 [(40, .leaf (.atom (.var 3)))] ([], []) (.leaf (.atom (.const (.bool true)))) 0 <|
    .call2 10 [] ([], []) (.leaf (.atom (.const (.bool true)))) 0 [] (
      .ret ([], []) (.leaf (.atom (.const (.bool true))))) (.leaf (.atom (.const (.bool false)))) 0 [] <|
    .ret ([], []) (.leaf (.atom (.const (.bool false))))) (.tup [.agg [.whole 5 24], .agg [.whole 6 48], .atom (.const (.bool false))]) 2 [] <|
  .new <|
  .new <|
  .call2 10 [] ([], []) (.leaf (.atom (.const (.bool true)))) 0 [] (
    .ret ([], []) (.leaf (.atom (.const (.bool true))))) (.leaf (.atom (.const (.bool false)))) 0 [] <|
  .ret ([], []) (.leaf (.atom (.const (.bool false))))
theorem c_ctH : compF Try.prog Try.f7 o_ctH (Try.f7.body.getD .skip) (symIn [.agg [.one (.var 0), .one (.var 1)], .agg [.one (.var 2), .one (.var 3)], .atom (.var 4)] Try.f7.ntmps 5) = some t_ctH := by kernel_rfl
theorem g_ctH : goodC Try.prog o_ctH.ords (Try.f7.body.getD .skip) = true := by kernel_rfl
set_option maxRecDepth 100000 in
set_option maxHeartbeats 1000000 in
theorem aw_ctH (b1 : List Int) (yb1 : By b1) (n1 : Int) (r1 : I64 n1) (n2 : Int) (r2 : I64 n2) (m2 : Int) (q2 : I64 m2) (n3 : Int) (r3 : I64 n3) (h : 7 < n2 ∧ 8 < m2 ∧ m2 ≤ 64) : AWp Try.prog tcN (fun a => a = .bool true) t_ctH [] [.isl .u8 b1, .int .i64 n1, .int .i64 n2, .int .i64 m2, .int .i64 n3] := by
  have d27 : decide (4 < n2) = true := decide_eq_true (by omega)
  have d31 : decide (n2 ≤ 7) = false := decide_eq_false (by omega)
  have d37 : decide (8 < m2) = true := decide_eq_true (by omega)
  have d41 : decide (m2 ≤ 64) = true := decide_eq_true (by omega)
  (conv => whnf)
  refine ⟨‹_›, fun hh => by repeat ((conv => whnf) <;> first | with_reducible first | refine And.intro rfl ?_ | rfl | refine cTt ?_ | refine cF (Eq.refl false) ?_ | refine cNt ?_ | refine cTd (by omega) ?_ | refine cFd (by omega) ?_), fun k1 k2 k3 => ?_⟩
  generalize sgG b1 n1 = g
  repeat ((conv => whnf) <;> first | with_reducible first | refine And.intro rfl ?_ | rfl | refine cTt ?_ | refine cF (Eq.refl false) ?_ | refine cNt ?_ | refine cTd (by omega) ?_ | refine cFd (by omega) ?_)
  (conv => whnf)
  rw [d27]
  (conv => whnf)
  rw [d31]
  (conv => whnf)
  rw [d37]
  (conv => whnf)
  rw [d41]
  repeat ((conv => whnf) <;> first | with_reducible first | refine And.intro rfl ?_ | rfl | refine cTt ?_ | refine cF (Eq.refl false) ?_ | refine cNt ?_ | refine cTd (by omega) ?_ | refine cFd (by omega) ?_)
set_option maxRecDepth 100000 in
theorem ctH_any (b1 : List Int) (yb1 : By b1) (v1 : Value) (n1 : Int) (r1 : I64 n1) (n2 : Int) (r2 : I64 n2) (m2 : Int) (q2 : I64 m2) (n3 : Int) (r3 : I64 n3) (h : 7 < n2 ∧ 8 < m2 ∧ m2 ≤ 64) (w : World) (s1 : Bv w v1 b1) : Calls Try.prog 7 #[AG [v1, .int .i64 n1], AG [.int .i64 n2, .int .i64 m2], .int .i64 n3] w (OutV (.bool true) w) :=
  law_tree tcN_ok o_ctH [.agg [.one (.var 0), .one (.var 1)], .agg [.one (.var 2), .one (.var 3)], .atom (.var 4)] [v1, .int .i64 n1, .int .i64 n2, .int .i64 m2, .int .i64 n3] [.isl .u8 b1, .int .i64 n1, .int .i64 n2, .int .i64 m2, .int .i64 n3] Try.func7 rfl c_ctH (by simp [Leaf.den, catS, Seg.den, Atom.den, cellsAt, AG, Value.cells]) (by intro x hx; simp only [List.mem_cons, List.not_mem_nil, or_false] at hx; rcases hx with rfl | rfl | rfl <;> first | exact ok_two rfl (bv_one s1) rfl rfl | exact ok_two rfl rfl rfl rfl | exact ok_one rfl rfl) ⟨_, _, rfl, bv_val s1, _, _, rfl, int_val n1, ⟨_, _, rfl, int_val n2, _, _, rfl, int_val m2, ⟨_, _, rfl, int_val n3, rfl⟩⟩⟩ g_ctH (aw_ctH b1 yb1 n1 r1 n2 r2 m2 q2 n3 r3 h)
def o_ctC : Orc := { o_ct0 with ans := [(27, .one ⟨.leaf (.atom (.const (.bool true))), 0, []⟩), (31, .one ⟨.leaf (.atom (.const (.bool false))), 0, []⟩), (37, .one ⟨.leaf (.atom (.const (.bool false))), 0, []⟩), (56, .one ⟨.leaf (.atom (.const (.bool false))), 0, []⟩), (60, .one ⟨.leaf (.atom (.const (.bool true))), 0, []⟩)] ++ o_ct0.ans }
def t_ctC : Tree :=
  .new <|
  .new <|
  .call2 18 [.agg [.one (.var 0), .one (.var 1)]] ([], []) (.tup [.agg [.whole 5 24], .agg [.whole 6 48], .atom (.const (.bool true))]) 2 [] (
    .new <|
    .new <|
    .calc (.binOp .gtr 3 (.tmp 26) (.const (.int .i64 4)) 3) 4 [(26, .leaf (.atom (.var 2)))] ([], []) (.leaf (.atom (.const (.bool true)))) 0 <|
    .calc (.binOp .leq 3 (.tmp 30) (.const (.int .i64 7)) 3) 4 [(30, .leaf (.atom (.var 2)))] ([], []) (.leaf (.atom (.const (.bool false)))) 0 <|
    .calc (.binOp .gtr 3 (.tmp 36) (.const (.int .i64 8)) 3) 4 [(36, .leaf (.atom (.var 3)))] ([], []) (.leaf (.atom (.const (.bool false)))) 0 <|
    .call 23 [.agg [.whole 5 24], .atom (.var 2), .atom (.var 3)] ([], []) (.tup [.atom (.var 7), .atom (.var 8)]) 2 [] <|
    .calc (.binOp .lss 3 (.tmp 55) (.const (.int .i64 1)) 3) 4 [(55, .leaf (.atom (.var 2)))] ([], []) (.leaf (.atom (.const (.bool false)))) 0 <|
    .calc (.binOp .gtr 3 (.tmp 59) (.const (.int .i64 7)) 3) 4 [(59, .leaf (.atom (.var 2)))] ([], []) (.leaf (.atom (.const (.bool true)))) 0 <|
    .calc2 (.binOp .eql 26 (.tmp 72) (.const (.pointer none)) 26) 4 [(72, .leaf (.atom (.var 7)))] ([], []) (.leaf (.atom (.const (.bool true)))) 0 (
      .calc2 (.binOp .eql 33 (.tmp 75) (.const (.int .i64 10)) 33) 4 [(75, .leaf (.atom (.var 8)))] ([], []) (.leaf (.atom (.const (.bool true)))) 0 (
        .call2 10 [] ([], []) (.leaf (.atom (.const (.bool true)))) 0 [] (
          .ret ([], []) (.leaf (.atom (.const (.bool true))))) (.leaf (.atom (.const (.bool false)))) 0 [] <|
        .ret ([], []) (.leaf (.atom (.const (.bool false))))) (.leaf (.atom (.const (.bool false)))) 0 <|
      .ret ([], []) (.leaf (.atom (.const (.bool false))))) (.leaf (.atom (.const (.bool false)))) 0 <|
    .ret ([], []) (.leaf (.atom (.const (.bool false))))) (.tup [.agg [.whole 5 24], .agg [.whole 6 48], .atom (.const (.bool false))]) 2 [] <|
  .new <|
  .new <|
  .call2 10 [] ([], []) (.leaf (.atom (.const (.bool true)))) 0 [] (
    .ret ([], []) (.leaf (.atom (.const (.bool true))))) (.leaf (.atom (.const (.bool false)))) 0 [] <|
  .ret ([], []) (.leaf (.atom (.const (.bool false))))
theorem c_ctC : compF Try.prog Try.f7 o_ctC (Try.f7.body.getD .skip) (symIn [.agg [.one (.var 0), .one (.var 1)], .agg [.one (.var 2), .one (.var 3)], .atom (.var 4)] Try.f7.ntmps 5) = some t_ctC := by kernel_rfl
theorem g_ctC : goodC Try.prog o_ctC.ords (Try.f7.body.getD .skip) = true := by kernel_rfl
set_option maxRecDepth 100000 in
set_option maxHeartbeats 1000000 in
theorem aw_ctC (b1 : List Int) (yb1 : By b1) (n1 : Int) (r1 : I64 n1) (n2 : Int) (r2 : I64 n2) (m2 : Int) (q2 : I64 m2) (n3 : Int) (r3 : I64 n3) (h : 7 < n2 ∧ m2 ≤ 8) : AWp Try.prog tcN (fun a => a = .bool true) t_ctC [] [.isl .u8 b1, .int .i64 n1, .int .i64 n2, .int .i64 m2, .int .i64 n3] := by
  have d27 : decide (4 < n2) = true := decide_eq_true (by omega)
  have d31 : decide (n2 ≤ 7) = false := decide_eq_false (by omega)
  have d37 : decide (8 < m2) = false := decide_eq_false (by omega)
  have d56 : decide (n2 < 1) = false := decide_eq_false (by omega)
  have d60 : decide (7 < n2) = true := decide_eq_true (by omega)
  (conv => whnf)
  refine ⟨‹_›, fun hh => by repeat ((conv => whnf) <;> first | with_reducible first | refine And.intro rfl ?_ | rfl | refine cTt ?_ | refine cF (Eq.refl false) ?_ | refine cNt ?_ | refine cTd (by omega) ?_ | refine cFd (by omega) ?_), fun k1 k2 k3 => ?_⟩
  generalize sgG b1 n1 = g
  repeat ((conv => whnf) <;> first | with_reducible first | refine And.intro rfl ?_ | rfl | refine cTt ?_ | refine cF (Eq.refl false) ?_ | refine cNt ?_ | refine cTd (by omega) ?_ | refine cFd (by omega) ?_)
  (conv => whnf)
  rw [d27]
  (conv => whnf)
  rw [d31]
  (conv => whnf)
  rw [d37]
  (conv => whnf)
  refine ⟨fun _ => ?_, fun _ _ _ _ => by omega⟩
  repeat ((conv => whnf) <;> first | with_reducible first | refine And.intro rfl ?_ | rfl | refine cTt ?_ | refine cF (Eq.refl false) ?_ | refine cNt ?_ | refine cTd (by omega) ?_ | refine cFd (by omega) ?_)
  (conv => whnf)
  rw [d56]
  (conv => whnf)
  rw [d60]
  repeat ((conv => whnf) <;> first | with_reducible first | refine And.intro rfl ?_ | rfl | refine cTt ?_ | refine cF (Eq.refl false) ?_ | refine cNt ?_ | refine cTd (by omega) ?_ | refine cFd (by omega) ?_)
set_option maxRecDepth 100000 in
theorem ctC_any (b1 : List Int) (yb1 : By b1) (v1 : Value) (n1 : Int) (r1 : I64 n1) (n2 : Int) (r2 : I64 n2) (m2 : Int) (q2 : I64 m2) (n3 : Int) (r3 : I64 n3) (h : 7 < n2 ∧ m2 ≤ 8) (w : World) (s1 : Bv w v1 b1) : Calls Try.prog 7 #[AG [v1, .int .i64 n1], AG [.int .i64 n2, .int .i64 m2], .int .i64 n3] w (OutV (.bool true) w) :=
  law_tree tcN_ok o_ctC [.agg [.one (.var 0), .one (.var 1)], .agg [.one (.var 2), .one (.var 3)], .atom (.var 4)] [v1, .int .i64 n1, .int .i64 n2, .int .i64 m2, .int .i64 n3] [.isl .u8 b1, .int .i64 n1, .int .i64 n2, .int .i64 m2, .int .i64 n3] Try.func7 rfl c_ctC (by simp [Leaf.den, catS, Seg.den, Atom.den, cellsAt, AG, Value.cells]) (by intro x hx; simp only [List.mem_cons, List.not_mem_nil, or_false] at hx; rcases hx with rfl | rfl | rfl <;> first | exact ok_two rfl (bv_one s1) rfl rfl | exact ok_two rfl rfl rfl rfl | exact ok_one rfl rfl) ⟨_, _, rfl, bv_val s1, _, _, rfl, int_val n1, ⟨_, _, rfl, int_val n2, _, _, rfl, int_val m2, ⟨_, _, rfl, int_val n3, rfl⟩⟩⟩ g_ctC (aw_ctC b1 yb1 n1 r1 n2 r2 m2 q2 n3 r3 h)
def o_ctD : Orc := { o_ct0 with ans := [(27, .one ⟨.leaf (.atom (.const (.bool true))), 0, []⟩), (31, .one ⟨.leaf (.atom (.const (.bool false))), 0, []⟩), (37, .one ⟨.leaf (.atom (.const (.bool true))), 0, []⟩), (41, .one ⟨.leaf (.atom (.const (.bool false))), 0, []⟩), (56, .one ⟨.leaf (.atom (.const (.bool false))), 0, []⟩), (60, .one ⟨.leaf (.atom (.const (.bool true))), 0, []⟩)] ++ o_ct0.ans }
def t_ctD : Tree :=
  .new <|
  .new <|
  .call2 18 [.agg [.one (.var 0), .one (.var 1)]] ([], []) (.tup [.agg [.whole 5 24], .agg [.whole 6 48], .atom (.const (.bool true))]) 2 [] (
    .new <|
    .new <|
    .calc (.binOp .gtr 3 (.tmp 26) (.const (.int .i64 4)) 3) 4 [(26, .leaf (.atom (.var 2)))] ([], []) (.leaf (.atom (.const (.bool true)))) 0 <|
    .calc (.binOp .leq 3 (.tmp 30) (.const (.int .i64 7)) 3) 4 [(30, .leaf (.atom (.var 2)))] ([], []) (.leaf (.atom (.const (.bool false)))) 0 <|
    .calc (.binOp .gtr 3 (.tmp 36) (.const (.int .i64 8)) 3) 4 [(36, .leaf (.atom (.var 3)))] ([], []) (.leaf (.atom (.const (.bool true)))) 0 <|
    .calc (.binOp .leq 3 (.tmp 40) (.const (.int .i64 64)) 3) 4 [(40, .leaf (.atom (.var 3)))] ([], []) (.leaf (.atom (.const (.bool false)))) 0 <|
    .call 23 [.agg [.whole 5 24], .atom (.var 2), .atom (.var 3)] ([], []) (.tup [.atom (.var 7), .atom (.var 8)]) 2 [] <|
    .calc (.binOp .lss 3 (.tmp 55) (.const (.int .i64 1)) 3) 4 [(55, .leaf (.atom (.var 2)))] ([], []) (.leaf (.atom (.const (.bool false)))) 0 <|
    .calc (.binOp .gtr 3 (.tmp 59) (.const (.int .i64 7)) 3) 4 [(59, .leaf (.atom (.var 2)))] ([], []) (.leaf (.atom (.const (.bool true)))) 0 <|
    .calc2 (.binOp .eql 26 (.tmp 72) (.const (.pointer none)) 26) 4 [(72, .leaf (.atom (.var 7)))] ([], []) (.leaf (.atom (.const (.bool true)))) 0 (
      .calc2 (.binOp .eql 33 (.tmp 75) (.const (.int .i64 10)) 33) 4 [(75, .leaf (.atom (.var 8)))] ([], []) (.leaf (.atom (.const (.bool true)))) 0 (
        .call2 10 [] ([], []) (.leaf (.atom (.const (.bool true)))) 0 [] (
          .ret ([], []) (.leaf (.atom (.const (.bool true))))) (.leaf (.atom (.const (.bool false)))) 0 [] <|
        .ret ([], []) (.leaf (.atom (.const (.bool false))))) (.leaf (.atom (.const (.bool false)))) 0 <|
      .ret ([], []) (.leaf (.atom (.const (.bool false))))) (.leaf (.atom (.const (.bool false)))) 0 <|
    .ret ([], []) (.leaf (.atom (.const (.bool false))))) (.tup [.agg [.whole 5 24], .agg [.whole 6 48], .atom (.const (.bool false))]) 2 [] <|
  .new <|
  .new <|
  .call2 10 [] ([], []) (.leaf (.atom (.const (.bool true)))) 0 [] (
    .ret ([], []) (.leaf (.atom (.const (.bool true))))) (.leaf (.atom (.const (.bool false)))) 0 [] <|
  .ret ([], []) (.leaf (.atom (.const (.bool false))))
theorem c_ctD : compF Try.prog Try.f7 o_ctD (Try.f7.body.getD .skip) (symIn [.agg [.one (.var 0), .one (.var 1)], .agg [.one (.var 2), .one (.var 3)], .atom (.var 4)] Try.f7.ntmps 5) = some t_ctD := by kernel_rfl
theorem g_ctD : goodC Try.prog o_ctD.ords (Try.f7.body.getD .skip) = true := by kernel_rfl
set_option maxRecDepth 100000 in
set_option maxHeartbeats 1000000 in
theorem aw_ctD (b1 : List Int) (yb1 : By b1) (n1 : Int) (r1 : I64 n1) (n2 : Int) (r2 : I64 n2) (m2 : Int) (q2 : I64 m2) (n3 : Int) (r3 : I64 n3) (h : 7 < n2 ∧ 64 < m2) : AWp Try.prog tcN (fun a => a = .bool true) t_ctD [] [.isl .u8 b1, .int .i64 n1, .int .i64 n2, .int .i64 m2, .int .i64 n3] := by
  have d27 : decide (4 < n2) = true := decide_eq_true (by omega)
  have d31 : decide (n2 ≤ 7) = false := decide_eq_false (by omega)
  have d37 : decide (8 < m2) = true := decide_eq_true (by omega)
  have d41 : decide (m2 ≤ 64) = false := decide_eq_false (by omega)
  have d56 : decide (n2 < 1) = false := decide_eq_false (by omega)
  have d60 : decide (7 < n2) = true := decide_eq_true (by omega)
  (conv => whnf)
  refine ⟨‹_›, fun hh => by repeat ((conv => whnf) <;> first | with_reducible first | refine And.intro rfl ?_ | rfl | refine cTt ?_ | refine cF (Eq.refl false) ?_ | refine cNt ?_ | refine cTd (by omega) ?_ | refine cFd (by omega) ?_), fun k1 k2 k3 => ?_⟩
  generalize sgG b1 n1 = g
  repeat ((conv => whnf) <;> first | with_reducible first | refine And.intro rfl ?_ | rfl | refine cTt ?_ | refine cF (Eq.refl false) ?_ | refine cNt ?_ | refine cTd (by omega) ?_ | refine cFd (by omega) ?_)
  (conv => whnf)
  rw [d27]
  (conv => whnf)
  rw [d31]
  (conv => whnf)
  rw [d37]
  (conv => whnf)
  rw [d41]
  (conv => whnf)
  refine ⟨fun _ => ?_, fun _ _ _ _ => by omega⟩
  repeat ((conv => whnf) <;> first | with_reducible first | refine And.intro rfl ?_ | rfl | refine cTt ?_ | refine cF (Eq.refl false) ?_ | refine cNt ?_ | refine cTd (by omega) ?_ | refine cFd (by omega) ?_)
  (conv => whnf)
  rw [d56]
  (conv => whnf)
  rw [d60]
  repeat ((conv => whnf) <;> first | with_reducible first | refine And.intro rfl ?_ | rfl | refine cTt ?_ | refine cF (Eq.refl false) ?_ | refine cNt ?_ | refine cTd (by omega) ?_ | refine cFd (by omega) ?_)
set_option maxRecDepth 100000 in
theorem ctD_any (b1 : List Int) (yb1 : By b1) (v1 : Value) (n1 : Int) (r1 : I64 n1) (n2 : Int) (r2 : I64 n2) (m2 : Int) (q2 : I64 m2) (n3 : Int) (r3 : I64 n3) (h : 7 < n2 ∧ 64 < m2) (w : World) (s1 : Bv w v1 b1) : Calls Try.prog 7 #[AG [v1, .int .i64 n1], AG [.int .i64 n2, .int .i64 m2], .int .i64 n3] w (OutV (.bool true) w) :=
  law_tree tcN_ok o_ctD [.agg [.one (.var 0), .one (.var 1)], .agg [.one (.var 2), .one (.var 3)], .atom (.var 4)] [v1, .int .i64 n1, .int .i64 n2, .int .i64 m2, .int .i64 n3] [.isl .u8 b1, .int .i64 n1, .int .i64 n2, .int .i64 m2, .int .i64 n3] Try.func7 rfl c_ctD (by simp [Leaf.den, catS, Seg.den, Atom.den, cellsAt, AG, Value.cells]) (by intro x hx; simp only [List.mem_cons, List.not_mem_nil, or_false] at hx; rcases hx with rfl | rfl | rfl <;> first | exact ok_two rfl (bv_one s1) rfl rfl | exact ok_two rfl rfl rfl rfl | exact ok_one rfl rfl) ⟨_, _, rfl, bv_val s1, _, _, rfl, int_val n1, ⟨_, _, rfl, int_val n2, _, _, rfl, int_val m2, ⟨_, _, rfl, int_val n3, rfl⟩⟩⟩ g_ctD (aw_ctD b1 yb1 n1 r1 n2 r2 m2 q2 n3 r3 h)
def o_ctB : Orc := { o_ct0 with ans := [(27, .one ⟨.leaf (.atom (.const (.bool false))), 0, []⟩), (37, .one ⟨.leaf (.atom (.const (.bool true))), 0, []⟩), (41, .one ⟨.leaf (.atom (.const (.bool false))), 0, []⟩), (60, .one ⟨.leaf (.atom (.const (.bool false))), 0, []⟩), (65, .one ⟨.leaf (.atom (.const (.bool false))), 0, []⟩), (70, .one ⟨.leaf (.atom (.const (.bool true))), 0, []⟩)] ++ o_ct0.ans }
def t_ctB : Tree :=
  .new <|
  .new <|
  .call2 18 [.agg [.one (.var 0), .one (.var 1)]] ([], []) (.tup [.agg [.whole 5 24], .agg [.whole 6 48], .atom (.const (.bool true))]) 2 [] (
    .new <|
    .new <|
    .calc (.binOp .gtr 3 (.tmp 26) (.const (.int .i64 4)) 3) 4 [(26, .leaf (.atom (.var 2)))] ([], []) (.leaf (.atom (.const (.bool false)))) 0 <|
    .calc (.binOp .gtr 3 (.tmp 36) (.const (.int .i64 8)) 3) 4 [(36, .leaf (.atom (.var 3)))] ([], []) (.leaf (.atom (.const (.bool true)))) 0 <|
    .calc (.binOp .leq 3 (.tmp 40) (.const (.int .i64 64)) 3) 4 [(40, .leaf (.atom (.var 3)))] ([], []) (.leaf (.atom (.const (.bool false)))) 0 <|
    .call 23 [.agg [.whole 5 24], .atom (.var 2), .atom (.var 3)] ([], []) (.tup [.atom (.var 7), .atom (.var 8)]) 2 [] <|
    .calc2 (.binOp .lss 3 (.tmp 55) (.const (.int .i64 1)) 3) 4 [(55, .leaf (.atom (.var 2)))] ([], []) (.leaf (.atom (.const (.bool true)))) 0 (
      .calc2 (.binOp .eql 26 (.tmp 72) (.const (.pointer none)) 26) 4 [(72, .leaf (.atom (.var 7)))] ([], []) (.leaf (.atom (.const (.bool true)))) 0 (
        .calc2 (.binOp .eql 33 (.tmp 75) (.const (.int .i64 10)) 33) 4 [(75, .leaf (.atom (.var 8)))] ([], []) (.leaf (.atom (.const (.bool true)))) 0 (
          .call2 10 [] ([], []) (.leaf (.atom (.const (.bool true)))) 0 [] (
            .ret ([], []) (.leaf (.atom (.const (.bool true))))) (.leaf (.atom (.const (.bool false)))) 0 [] <|
          .ret ([], []) (.leaf (.atom (.const (.bool false))))) (.leaf (.atom (.const (.bool false)))) 0 <|
        .ret ([], []) (.leaf (.atom (.const (.bool false))))) (.leaf (.atom (.const (.bool false)))) 0 <|
      .ret ([], []) (.leaf (.atom (.const (.bool false))))) (.leaf (.atom (.const (.bool false)))) 0 <|
    .calc (.binOp .gtr 3 (.tmp 59) (.const (.int .i64 7)) 3) 4 [(59, .leaf (.atom (.var 2)))] ([], []) (.leaf (.atom (.const (.bool false)))) 0 <|
    .calc (.binOp .lss 3 (.tmp 64) (.const (.int .i64 1)) 3) 4 [(64, .leaf (.atom (.var 3)))] ([], []) (.leaf (.atom (.const (.bool false)))) 0 <|
    .calc (.binOp .gtr 3 (.tmp 69) (.const (.int .i64 64)) 3) 4 [(69, .leaf (.atom (.var 3)))] ([], []) (.leaf (.atom (.const (.bool true)))) 0 <|
    .calc2 (.binOp .eql 26 (.tmp 72) (.const (.pointer none)) 26) 4 [(72, .leaf (.atom (.var 7)))] ([], []) (.leaf (.atom (.const (.bool true)))) 0 (
      .calc2 (.binOp .eql 33 (.tmp 75) (.const (.int .i64 10)) 33) 4 [(75, .leaf (.atom (.var 8)))] ([], []) (.leaf (.atom (.const (.bool true)))) 0 (
        .call2 10 [] ([], []) (.leaf (.atom (.const (.bool true)))) 0 [] (
          .ret ([], []) (.leaf (.atom (.const (.bool true))))) (.leaf (.atom (.const (.bool false)))) 0 [] <|
        .ret ([], []) (.leaf (.atom (.const (.bool false))))) (.leaf (.atom (.const (.bool false)))) 0 <|
      .ret ([], []) (.leaf (.atom (.const (.bool false))))) (.leaf (.atom (.const (.bool false)))) 0 <|
    .ret ([], []) (.leaf (.atom (.const (.bool false))))) (.tup [.agg [.whole 5 24], .agg [.whole 6 48], .atom (.const (.bool false))]) 2 [] <|
  .new <|
  .new <|
  .call2 10 [] ([], []) (.leaf (.atom (.const (.bool true)))) 0 [] (
    .ret ([], []) (.leaf (.atom (.const (.bool true))))) (.leaf (.atom (.const (.bool false)))) 0 [] <|
  .ret ([], []) (.leaf (.atom (.const (.bool false))))
theorem c_ctB : compF Try.prog Try.f7 o_ctB (Try.f7.body.getD .skip) (symIn [.agg [.one (.var 0), .one (.var 1)], .agg [.one (.var 2), .one (.var 3)], .atom (.var 4)] Try.f7.ntmps 5) = some t_ctB := by kernel_rfl
theorem g_ctB : goodC Try.prog o_ctB.ords (Try.f7.body.getD .skip) = true := by kernel_rfl
set_option maxRecDepth 100000 in
set_option maxHeartbeats 1000000 in
theorem aw_ctB (b1 : List Int) (yb1 : By b1) (n1 : Int) (r1 : I64 n1) (n2 : Int) (r2 : I64 n2) (m2 : Int) (q2 : I64 m2) (n3 : Int) (r3 : I64 n3) (h : n2 ≤ 4 ∧ 64 < m2) : AWp Try.prog tcN (fun a => a = .bool true) t_ctB [] [.isl .u8 b1, .int .i64 n1, .int .i64 n2, .int .i64 m2, .int .i64 n3] := by
  have d27 : decide (4 < n2) = false := decide_eq_false (by omega)
  have d37 : decide (8 < m2) = true := decide_eq_true (by omega)
  have d41 : decide (m2 ≤ 64) = false := decide_eq_false (by omega)
  have d60 : decide (7 < n2) = false := decide_eq_false (by omega)
  have d65 : decide (m2 < 1) = false := decide_eq_false (by omega)
  have d70 : decide (64 < m2) = true := decide_eq_true (by omega)
  (conv => whnf)
  refine ⟨‹_›, fun hh => by repeat ((conv => whnf) <;> first | with_reducible first | refine And.intro rfl ?_ | rfl | refine cTt ?_ | refine cF (Eq.refl false) ?_ | refine cNt ?_ | refine cTd (by omega) ?_ | refine cFd (by omega) ?_), fun k1 k2 k3 => ?_⟩
  generalize sgG b1 n1 = g
  repeat ((conv => whnf) <;> first | with_reducible first | refine And.intro rfl ?_ | rfl | refine cTt ?_ | refine cF (Eq.refl false) ?_ | refine cNt ?_ | refine cTd (by omega) ?_ | refine cFd (by omega) ?_)
  (conv => whnf)
  rw [d27]
  (conv => whnf)
  rw [d37]
  (conv => whnf)
  rw [d41]
  (conv => whnf)
  refine ⟨fun _ => ?_, fun _ _ _ _ => by omega⟩
  by_cases hn : n2 < 1
  · repeat ((conv => whnf) <;> first | with_reducible first | refine And.intro rfl ?_ | rfl | refine cTt ?_ | refine cF (Eq.refl false) ?_ | refine cNt ?_ | refine cTd (by omega) ?_ | refine cFd (by omega) ?_)
  repeat ((conv => whnf) <;> first | with_reducible first | refine And.intro rfl ?_ | rfl | refine cTt ?_ | refine cF (Eq.refl false) ?_ | refine cNt ?_ | refine cTd (by omega) ?_ | refine cFd (by omega) ?_)
  (conv => whnf)
  rw [d60]
  (conv => whnf)
  rw [d65]
  (conv => whnf)
  rw [d70]
  repeat ((conv => whnf) <;> first | with_reducible first | refine And.intro rfl ?_ | rfl | refine cTt ?_ | refine cF (Eq.refl false) ?_ | refine cNt ?_ | refine cTd (by omega) ?_ | refine cFd (by omega) ?_)
set_option maxRecDepth 100000 in
theorem ctB_any (b1 : List Int) (yb1 : By b1) (v1 : Value) (n1 : Int) (r1 : I64 n1) (n2 : Int) (r2 : I64 n2) (m2 : Int) (q2 : I64 m2) (n3 : Int) (r3 : I64 n3) (h : n2 ≤ 4 ∧ 64 < m2) (w : World) (s1 : Bv w v1 b1) : Calls Try.prog 7 #[AG [v1, .int .i64 n1], AG [.int .i64 n2, .int .i64 m2], .int .i64 n3] w (OutV (.bool true) w) :=
  law_tree tcN_ok o_ctB [.agg [.one (.var 0), .one (.var 1)], .agg [.one (.var 2), .one (.var 3)], .atom (.var 4)] [v1, .int .i64 n1, .int .i64 n2, .int .i64 m2, .int .i64 n3] [.isl .u8 b1, .int .i64 n1, .int .i64 n2, .int .i64 m2, .int .i64 n3] Try.func7 rfl c_ctB (by simp [Leaf.den, catS, Seg.den, Atom.den, cellsAt, AG, Value.cells]) (by intro x hx; simp only [List.mem_cons, List.not_mem_nil, or_false] at hx; rcases hx with rfl | rfl | rfl <;> first | exact ok_two rfl (bv_one s1) rfl rfl | exact ok_two rfl rfl rfl rfl | exact ok_one rfl rfl) ⟨_, _, rfl, bv_val s1, _, _, rfl, int_val n1, ⟨_, _, rfl, int_val n2, _, _, rfl, int_val m2, ⟨_, _, rfl, int_val n3, rfl⟩⟩⟩ g_ctB (aw_ctB b1 yb1 n1 r1 n2 r2 m2 q2 n3 r3 h)
theorem ct_any (b1 : List Int) (yb1 : By b1) (v1 : Value) (n1 : Int) (r1 : I64 n1) (n2 : Int) (r2 : I64 n2) (m2 : Int) (q2 : I64 m2) (n3 : Int) (r3 : I64 n3) (w : World) (s1 : Bv w v1 b1) : Calls Try.prog 7 #[AG [v1, .int .i64 n1], AG [.int .i64 n2, .int .i64 m2], .int .i64 n3] w (OutV (.bool true) w) := by
  by_cases hA : n2 ≤ 4 ∧ m2 ≤ 8 ∧ 1 ≤ n2 ∧ 1 ≤ m2
  · exact ctA_any b1 yb1 v1 n1 r1 n2 r2 m2 q2 n3 r3 hA w s1
  by_cases hA1 : n2 < 1 ∧ m2 ≤ 8
  · exact ctA1_any b1 yb1 v1 n1 r1 n2 r2 m2 q2 n3 r3 hA1 w s1
  by_cases hA2 : 1 ≤ n2 ∧ n2 ≤ 4 ∧ m2 < 1
  · exact ctA2_any b1 yb1 v1 n1 r1 n2 r2 m2 q2 n3 r3 hA2 w s1
  by_cases hE : 4 < n2 ∧ n2 ≤ 7
  · exact ctE_any b1 yb1 v1 n1 r1 n2 r2 m2 q2 n3 r3 hE w s1
  by_cases hG : n2 ≤ 4 ∧ 8 < m2 ∧ m2 ≤ 64
  · exact ctG_any b1 yb1 v1 n1 r1 n2 r2 m2 q2 n3 r3 hG w s1
  by_cases hH : 7 < n2 ∧ 8 < m2 ∧ m2 ≤ 64
  · exact ctH_any b1 yb1 v1 n1 r1 n2 r2 m2 q2 n3 r3 hH w s1
  by_cases hC : 7 < n2 ∧ m2 ≤ 8
  · exact ctC_any b1 yb1 v1 n1 r1 n2 r2 m2 q2 n3 r3 hC w s1
  by_cases hD : 7 < n2 ∧ 64 < m2
  · exact ctD_any b1 yb1 v1 n1 r1 n2 r2 m2 q2 n3 r3 hD w s1
  by_cases hB : n2 ≤ 4 ∧ 64 < m2
  · exact ctB_any b1 yb1 v1 n1 r1 n2 r2 m2 q2 n3 r3 hB w s1
  exfalso; omega
end Go.Proofs.Ytamgmkeoaaaliaa
