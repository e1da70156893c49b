/- Chapter 10: LadderProducts, LadderMeets, LadderShares -/
import Derived.Test.YtmbapbbneapcnaaLdd
set_option linter.unusedSimpArgs false
set_option linter.unusedVariables false
namespace Go.Proofs.Ytmbapbbneapcnaa
open Go.RowKit FdP FdP.Ch
theorem nval_2 {a b : Int} (ha : 0 ≤ a) (hb : 0 ≤ b) : (nval [a, b] : Int) = a + 256 * b := by
  unfold nval
  show (((a + 256 * (b + 256 * 0)).toNat : Nat) : Int) = _
  omega
theorem nval_4 {a b c d : Int} (ha : 0 ≤ a) (hb : 0 ≤ b) (hc : 0 ≤ c) (hd : 0 ≤ d) : (nval [a, b, c, d] : Int) = a + 256 * b + 65536 * c + 16777216 * d := by
  unfold nval
  show (((a + 256 * (b + 256 * (c + 256 * (d + 256 * 0)))).toNat : Nat) : Int) = _
  omega
def numB2 (m : Int) : List Int := [m % 256, m / 256]
def numB4 (m : Int) : List Int := [m % 256, m / 256 % 256, m / 65536 % 256, m / 16777216]
theorem numB2_ok {m : Int} (h : 0 ≤ m ∧ m ≤ 65535) : (By (numB2 m) ∧ (numB2 m).length ≤ 100000) ∧ nval (numB2 m) = m.toNat := by
  refine ⟨⟨fun x hx => ?_, by simp [numB2, numB4]⟩, ?_⟩
  · simp only [numB2, List.mem_cons, List.not_mem_nil, or_false] at hx
    rcases hx with rfl | rfl <;> omega
  · have := nval_2 (a := m % 256) (b := m / 256) (by omega) (by omega)
    have e : nval (numB2 m) = nval [m % 256, m / 256] := rfl
    omega
theorem numB4_ok {m : Int} (h : 0 ≤ m ∧ m ≤ 4294967295) : (By (numB4 m) ∧ (numB4 m).length ≤ 100000) ∧ nval (numB4 m) = m.toNat := by
  refine ⟨⟨fun x hx => ?_, by simp [numB2, numB4]⟩, ?_⟩
  · simp only [numB4, List.mem_cons, List.not_mem_nil, or_false] at hx
    rcases hx with rfl | rfl | rfl | rfl <;> omega
  · have := nval_4 (a := m % 256) (b := m / 256 % 256) (c := m / 65536 % 256) (d := m / 16777216) (by omega) (by omega) (by omega) (by omega)
    have e : nval (numB4 m) = nval [m % 256, m / 256 % 256, m / 65536 % 256, m / 16777216] := rfl
    omega
theorem prod_bd {m n : Int} (hm : 0 ≤ m ∧ m ≤ 65535) (hn : 0 ≤ n ∧ n ≤ 65535) : 0 ≤ m * n ∧ m * n ≤ 4294836225 := by
  refine ⟨Int.mul_nonneg hm.1 hn.1, ?_⟩
  have h1 : m * n ≤ 65535 * n := Int.mul_le_mul_of_nonneg_right hm.2 hn.1
  omega
def tLB : Trans := fun zs Q => match zs with
  | [.ints .u8 l] => l.length = 56 ∧ Q (.isl .u8 l)
  | _ => False
def o_lbI : Orc := { ans := [(5, .one ⟨.leaf (.atom (.var 0)), 1, []⟩), (6, .one ⟨.leaf (.atom (.var 0)), 1, []⟩)], lps := [] }
def t_lbI : Tree :=
  .new <|
  .app none [.whole 0 56] 1 <|
  .ret ([([.whole 0 56], 23)], [⟨1, 2, 5, 1⟩]) (.leaf (.atom (.var 1)))
theorem c_lbI : compF Try.prog Try.f19 o_lbI (Try.f19.body.getD .skip) (symIn [.agg [.whole 0 56]] Try.f19.ntmps 1) = some t_lbI := by kernel_rfl
theorem g_lbI : goodC Try.prog o_lbI.ords (Try.f19.body.getD .skip) = true := by kernel_rfl
def tb_lbI : FuncId × Trans := (19, tLB)
set_option maxRecDepth 100000 in
theorem aw_lbI : ∀ zs Q, tb_lbI.2 zs Q → bindLs 0 [.agg [.whole 0 56]] zs fun ae => bif Nat.beq ae.length 1 then AWp Try.prog tabNil Q t_lbI [] ae else False := by
  intro zs Q h
  replace h : tLB zs Q := h
  unfold tLB at h
  split at h
  case h_2 => exact h.elim
  rename_i l
  obtain ⟨hl, h⟩ := h
  have hs : (AV.ints .u8 l).size ≤ 1000000 := by show l.length ≤ 1000000; omega
  repeat ((conv => whnf) <;> first | with_reducible rfl | with_reducible refine And.intro (by assumption) ?_ | with_reducible refine cTe (by assumption) ?_ | with_reducible refine cFe (by assumption) ?_ | with_reducible refine cN (cTe (by assumption) ?_) | with_reducible refine cN (cFe (by assumption) ?_) | with_reducible refine cTe rfl ?_ | with_reducible refine cEq (by assumption) ?_ | with_reducible refine cTt ?_ | with_reducible refine cNt ?_ | with_reducible refine cF (Eq.refl false) ?_ | with_reducible refine cN (cF (Eq.refl false) ?_) | with_reducible refine cTd (by omega) ?_ | with_reducible refine cFd (by omega) ?_ | with_reducible refine cN (cTd (by omega) ?_) | with_reducible refine cN (cFd (by omega) ?_) | with_reducible refine And.intro (fun hh : Option.isSome none = true => by cases hh) ?_ | with_reducible refine And.intro (by omega) ?_)
  (conv => whnf)
  exact ⟨rfl, h⟩
theorem tb_lbI_ok : Con Try.prog tb_lbI.1 tb_lbI.2 := con_tree tabNil_ok o_lbI [.agg [.whole 0 56]] 1 Try.func19 rfl c_lbI aw_lbI g_lbI
def tjM : Tab := tb_awake10 :: tb_made :: tb_ladderS :: tb_equal :: []
theorem tjM_ok : tjM.OK Try.prog := tab_cons tb_awake10_ok <| tab_cons tb_made_ok <| tab_cons tb_ladderS_ok <| tab_cons tb_equal_ok <| tab_nil _
def o_lproducts : Orc := { ans := [(17, .one ⟨.leaf (.agg [.whole 0 56]), 1, []⟩), (18, .one ⟨.tup [.agg [.whole 0 8], .atom (.const (.bool true))], 1, []⟩), (22, .one ⟨.leaf (.atom (.var 0)), 1, []⟩), (25, .two ⟨.leaf (.atom (.const (.bool true))), 0, []⟩ ⟨.leaf (.atom (.const (.bool false))), 0, []⟩), (26, .one ⟨.leaf (.atom (.var 0)), 1, []⟩), (29, .two ⟨.leaf (.atom (.const (.bool true))), 0, []⟩ ⟨.leaf (.atom (.const (.bool false))), 0, []⟩), (30, .one ⟨.leaf (.atom (.var 0)), 1, []⟩), (33, .two ⟨.leaf (.atom (.const (.bool true))), 0, []⟩ ⟨.leaf (.atom (.const (.bool false))), 0, []⟩), (34, .one ⟨.leaf (.atom (.var 0)), 1, []⟩), (37, .two ⟨.leaf (.atom (.const (.bool true))), 0, []⟩ ⟨.leaf (.atom (.const (.bool false))), 0, []⟩), (38, .one ⟨.leaf (.atom (.var 0)), 1, []⟩), (41, .two ⟨.leaf (.atom (.const (.bool true))), 0, []⟩ ⟨.leaf (.atom (.const (.bool false))), 0, []⟩), (42, .one ⟨.leaf (.atom (.var 0)), 1, []⟩), (45, .one ⟨.leaf (.atom (.var 0)), 1, []⟩), (48, .one ⟨.leaf (.atom (.var 0)), 1, []⟩), (49, .one ⟨.leaf (.atom (.var 0)), 1, []⟩), (51, .one ⟨.leaf (.atom (.var 0)), 1, []⟩), (52, .one ⟨.leaf (.atom (.var 0)), 1, []⟩), (54, .one ⟨.leaf (.agg [.whole 0 8]), 1, []⟩), (55, .one ⟨.tup [.agg [.whole 0 8], .atom (.var 1)], 2, []⟩), (60, .one ⟨.leaf (.atom (.var 0)), 1, []⟩), (61, .one ⟨.leaf (.atom (.var 0)), 1, []⟩), (63, .one ⟨.leaf (.atom (.var 0)), 1, []⟩), (64, .one ⟨.leaf (.atom (.var 0)), 1, []⟩), (66, .one ⟨.leaf (.agg [.whole 0 8]), 1, []⟩), (67, .one ⟨.tup [.agg [.whole 0 8], .atom (.var 1)], 2, []⟩), (72, .one ⟨.leaf (.atom (.var 0)), 1, []⟩), (73, .one ⟨.leaf (.atom (.var 0)), 1, []⟩), (75, .one ⟨.leaf (.atom (.var 0)), 1, []⟩), (76, .one ⟨.leaf (.atom (.var 0)), 1, []⟩), (77, .one ⟨.leaf (.atom (.var 0)), 1, []⟩), (79, .one ⟨.leaf (.atom (.var 0)), 1, []⟩), (80, .one ⟨.leaf (.atom (.var 0)), 1, []⟩), (81, .one ⟨.leaf (.atom (.var 0)), 1, []⟩), (83, .one ⟨.leaf (.atom (.var 0)), 1, []⟩), (84, .one ⟨.leaf (.atom (.var 0)), 1, []⟩), (86, .one ⟨.leaf (.agg [.whole 0 8]), 1, []⟩), (87, .one ⟨.tup [.agg [.whole 0 8], .atom (.var 1)], 2, []⟩), (91, .two ⟨.leaf (.atom (.const (.bool true))), 0, []⟩ ⟨.leaf (.atom (.const (.bool false))), 0, []⟩), (94, .two ⟨.leaf (.atom (.const (.bool true))), 0, []⟩ ⟨.leaf (.atom (.const (.bool false))), 0, []⟩), (95, .one ⟨.leaf (.atom (.var 0)), 1, []⟩), (98, .two ⟨.leaf (.atom (.const (.bool true))), 0, []⟩ ⟨.leaf (.atom (.const (.bool false))), 0, []⟩), (99, .one ⟨.leaf (.atom (.var 0)), 1, []⟩), (101, .one ⟨.leaf (.agg [.whole 0 8]), 1, []⟩), (102, .one ⟨.leaf (.agg [.whole 0 8]), 1, []⟩), (103, .two ⟨.leaf (.atom (.const (.bool true))), 0, []⟩ ⟨.leaf (.atom (.const (.bool false))), 0, []⟩), (104, .one ⟨.leaf (.atom (.var 0)), 1, []⟩), (106, .two ⟨.leaf (.atom (.const (.bool true))), 0, []⟩ ⟨.leaf (.atom (.const (.bool false))), 0, []⟩), (107, .one ⟨.leaf (.atom (.var 0)), 1, []⟩)], lps := [] }
def t_lproducts : Tree :=
  .new <|
  .call 10 [.agg [.whole 2 56]] ([], []) (.tup [.agg [.whole 3 8], .atom (.const (.bool true))]) 1 [] <|
  .new <|
  .calc2 (.binOp .lss 3 (.tmp 24) (.const (.int .i64 0)) 3) 4 [(24, .leaf (.atom (.var 0)))] ([], []) (.leaf (.atom (.const (.bool true)))) 0 (
    .call2 15 [] ([], []) (.leaf (.atom (.const (.bool true)))) 0 [] (
      .ret ([], []) (.leaf (.atom (.const (.bool true))))) (.leaf (.atom (.const (.bool false)))) 0 [] <|
    .ret ([], []) (.leaf (.atom (.const (.bool false))))) (.leaf (.atom (.const (.bool false)))) 0 <|
  .calc2 (.binOp .gtr 3 (.tmp 28) (.const (.int .i64 65535)) 3) 4 [(28, .leaf (.atom (.var 0)))] ([], []) (.leaf (.atom (.const (.bool true)))) 0 (
    .call2 15 [] ([], []) (.leaf (.atom (.const (.bool true)))) 0 [] (
      .ret ([], []) (.leaf (.atom (.const (.bool true))))) (.leaf (.atom (.const (.bool false)))) 0 [] <|
    .ret ([], []) (.leaf (.atom (.const (.bool false))))) (.leaf (.atom (.const (.bool false)))) 0 <|
  .calc2 (.binOp .lss 3 (.tmp 32) (.const (.int .i64 0)) 3) 4 [(32, .leaf (.atom (.var 1)))] ([], []) (.leaf (.atom (.const (.bool true)))) 0 (
    .call2 15 [] ([], []) (.leaf (.atom (.const (.bool true)))) 0 [] (
      .ret ([], []) (.leaf (.atom (.const (.bool true))))) (.leaf (.atom (.const (.bool false)))) 0 [] <|
    .ret ([], []) (.leaf (.atom (.const (.bool false))))) (.leaf (.atom (.const (.bool false)))) 0 <|
  .calc2 (.binOp .gtr 3 (.tmp 36) (.const (.int .i64 65535)) 3) 4 [(36, .leaf (.atom (.var 1)))] ([], []) (.leaf (.atom (.const (.bool true)))) 0 (
    .call2 15 [] ([], []) (.leaf (.atom (.const (.bool true)))) 0 [] (
      .ret ([], []) (.leaf (.atom (.const (.bool true))))) (.leaf (.atom (.const (.bool false)))) 0 [] <|
    .ret ([], []) (.leaf (.atom (.const (.bool false))))) (.leaf (.atom (.const (.bool false)))) 0 <|
  .calc (.binOp .mul 3 (.tmp 43) (.tmp 44) 3) 3 [(43, .leaf (.atom (.var 0))), (44, .leaf (.atom (.var 1)))] ([], []) (.leaf (.atom (.var 4))) 1 <|
  .calc (.binOp .rem 3 (.tmp 47) (.const (.int .i64 256)) 3) 3 [(47, .leaf (.atom (.var 0)))] ([], []) (.leaf (.atom (.var 5))) 1 <|
  .calc (.convert 3 5 (.tmp 48)) 5 [(48, .leaf (.atom (.var 5)))] ([], []) (.leaf (.atom (.var 6))) 1 <|
  .calc (.binOp .quo 3 (.tmp 50) (.const (.int .i64 256)) 3) 3 [(50, .leaf (.atom (.var 0)))] ([], []) (.leaf (.atom (.var 7))) 1 <|
  .calc (.convert 3 5 (.tmp 51)) 5 [(51, .leaf (.atom (.var 7)))] ([], []) (.leaf (.atom (.var 8))) 1 <|
  .new <|
  .call 16 [.atom (.slc 2 0 2 2), .agg [.whole 3 8]] ([([.whole 2 56], 23), ([.whole 3 8], 29), ([.one (.var 6), .one (.var 8)], 5)], []) (.tup [.agg [.whole 9 8], .atom (.var 10)]) 2 [] <|
  .new <|
  .calc (.binOp .rem 3 (.tmp 59) (.const (.int .i64 256)) 3) 3 [(59, .leaf (.atom (.var 1)))] ([], []) (.leaf (.atom (.var 11))) 1 <|
  .calc (.convert 3 5 (.tmp 60)) 5 [(60, .leaf (.atom (.var 11)))] ([], []) (.leaf (.atom (.var 12))) 1 <|
  .calc (.binOp .quo 3 (.tmp 62) (.const (.int .i64 256)) 3) 3 [(62, .leaf (.atom (.var 1)))] ([], []) (.leaf (.atom (.var 13))) 1 <|
  .calc (.convert 3 5 (.tmp 63)) 5 [(63, .leaf (.atom (.var 13)))] ([], []) (.leaf (.atom (.var 14))) 1 <|
  .new <|
  .call 16 [.atom (.slc 4 0 2 2), .agg [.whole 9 8]] ([([.whole 2 56], 23), ([.whole 3 8], 29), ([.one (.var 6), .one (.var 8)], 5), ([.whole 9 8], 29), ([.one (.var 12), .one (.var 14)], 5)], []) (.tup [.agg [.whole 15 8], .atom (.var 16)]) 2 [] <|
  .new <|
  .calc (.binOp .rem 3 (.tmp 71) (.const (.int .i64 256)) 3) 3 [(71, .leaf (.atom (.var 4)))] ([], []) (.leaf (.atom (.var 17))) 1 <|
  .calc (.convert 3 5 (.tmp 72)) 5 [(72, .leaf (.atom (.var 17)))] ([], []) (.leaf (.atom (.var 18))) 1 <|
  .calc (.binOp .quo 3 (.tmp 74) (.const (.int .i64 256)) 3) 3 [(74, .leaf (.atom (.var 4)))] ([], []) (.leaf (.atom (.var 19))) 1 <|
  .calc (.binOp .rem 3 (.tmp 75) (.const (.int .i64 256)) 3) 3 [(75, .leaf (.atom (.var 19)))] ([], []) (.leaf (.atom (.var 20))) 1 <|
  .calc (.convert 3 5 (.tmp 76)) 5 [(76, .leaf (.atom (.var 20)))] ([], []) (.leaf (.atom (.var 21))) 1 <|
  .calc (.binOp .quo 3 (.tmp 78) (.const (.int .i64 65536)) 3) 3 [(78, .leaf (.atom (.var 4)))] ([], []) (.leaf (.atom (.var 22))) 1 <|
  .calc (.binOp .rem 3 (.tmp 79) (.const (.int .i64 256)) 3) 3 [(79, .leaf (.atom (.var 22)))] ([], []) (.leaf (.atom (.var 23))) 1 <|
  .calc (.convert 3 5 (.tmp 80)) 5 [(80, .leaf (.atom (.var 23)))] ([], []) (.leaf (.atom (.var 24))) 1 <|
  .calc (.binOp .quo 3 (.tmp 82) (.const (.int .i64 16777216)) 3) 3 [(82, .leaf (.atom (.var 4)))] ([], []) (.leaf (.atom (.var 25))) 1 <|
  .calc (.convert 3 5 (.tmp 83)) 5 [(83, .leaf (.atom (.var 25)))] ([], []) (.leaf (.atom (.var 26))) 1 <|
  .new <|
  .call 16 [.atom (.slc 6 0 4 4), .agg [.whole 3 8]] ([([.whole 2 56], 23), ([.whole 3 8], 29), ([.one (.var 6), .one (.var 8)], 5), ([.whole 9 8], 29), ([.one (.var 12), .one (.var 14)], 5), ([.whole 15 8], 29), ([.one (.var 18), .one (.var 21), .one (.var 24), .one (.var 26)], 5)], []) (.tup [.agg [.whole 27 8], .atom (.var 28)]) 2 [] <|
  .new <|
  .calc2 (.binOp .eql 45 (.tmp 90) (.const (.int .i64 0)) 45) 4 [(90, .leaf (.atom (.var 10)))] ([], []) (.leaf (.atom (.const (.bool true)))) 0 (
    .calc2 (.binOp .eql 45 (.tmp 93) (.const (.int .i64 0)) 45) 4 [(93, .leaf (.atom (.var 16)))] ([], []) (.leaf (.atom (.const (.bool true)))) 0 (
      .calc2 (.binOp .eql 45 (.tmp 97) (.const (.int .i64 0)) 45) 4 [(97, .leaf (.atom (.var 28)))] ([], []) (.leaf (.atom (.const (.bool true)))) 0 (
        .call2 22 [.agg [.whole 15 8], .agg [.whole 27 8]] ([], []) (.leaf (.atom (.const (.bool true)))) 0 [] (
          .call2 15 [] ([], []) (.leaf (.atom (.const (.bool true)))) 0 [] (
            .ret ([], []) (.leaf (.atom (.const (.bool true))))) (.leaf (.atom (.const (.bool false)))) 0 [] <|
          .ret ([], []) (.leaf (.atom (.const (.bool false))))) (.leaf (.atom (.const (.bool false)))) 0 [] <|
        .ret ([], []) (.leaf (.atom (.const (.bool false))))) (.leaf (.atom (.const (.bool false)))) 0 <|
      .ret ([], []) (.leaf (.atom (.const (.bool false))))) (.leaf (.atom (.const (.bool false)))) 0 <|
    .ret ([], []) (.leaf (.atom (.const (.bool false))))) (.leaf (.atom (.const (.bool false)))) 0 <|
  .ret ([], []) (.leaf (.atom (.const (.bool false))))
theorem c_lproducts : compF Try.prog Try.f6 o_lproducts (Try.f6.body.getD .skip) (symIn [.atom (.var 0), .atom (.var 1), .agg [.whole 2 56]] Try.f6.ntmps 3) = some t_lproducts := by kernel_rfl
theorem g_lproducts : goodC Try.prog o_lproducts.ords (Try.f6.body.getD .skip) = true := by kernel_rfl
set_option maxRecDepth 100000 in
set_option maxHeartbeats 1000000 in
theorem aw_lproducts (n1 : Int) (r1 : I64 n1) (n2 : Int) (r2 : I64 n2) (b3 : List Int) (lb3 : b3.length = 56) (yb3 : By b3) : AWp Try.prog tjM (fun a => a = .bool true) t_lproducts [] [.int .i64 n1, .int .i64 n2, .ints .u8 b3] := by
  have m3 := And.intro lb3 yb3
  have r1' : -9223372036854775808 ≤ n1 ∧ n1 < 9223372036854775808 := r1
  have r2' : -9223372036854775808 ≤ n2 ∧ n2 < 9223372036854775808 := r2
  by_cases a1 : n1 < 0
  · repeat ((conv => whnf) <;> first | with_reducible refine wI (by omega) ?_ | with_reducible refine wB (by omega) ?_ | with_reducible refine wR (by omega) ?_ | with_reducible refine wQ (by omega) ?_ |  with_reducible rfl | with_reducible refine And.intro (by assumption) ?_ | with_reducible refine cTe (by assumption) ?_ | with_reducible refine cFe (by assumption) ?_ | with_reducible refine cN (cTe (by assumption) ?_) | with_reducible refine cN (cFe (by assumption) ?_) | with_reducible refine cTe rfl ?_ | with_reducible refine cEq (by assumption) ?_ | with_reducible refine cTt ?_ | with_reducible refine cNt ?_ | with_reducible refine cF (Eq.refl false) ?_ | with_reducible refine cN (cF (Eq.refl false) ?_) | with_reducible refine cTd (by omega) ?_ | with_reducible refine cFd (by omega) ?_ | with_reducible refine cN (cTd (by omega) ?_) | with_reducible refine cN (cFd (by omega) ?_) | with_reducible refine And.intro (fun hh : Option.isSome none = true => by cases hh) ?_ | with_reducible refine And.intro (by omega) ?_)
  by_cases a2 : n1 > 65535
  · repeat ((conv => whnf) <;> first | with_reducible refine wI (by omega) ?_ | with_reducible refine wB (by omega) ?_ | with_reducible refine wR (by omega) ?_ | with_reducible refine wQ (by omega) ?_ |  with_reducible rfl | with_reducible refine And.intro (by assumption) ?_ | with_reducible refine cTe (by assumption) ?_ | with_reducible refine cFe (by assumption) ?_ | with_reducible refine cN (cTe (by assumption) ?_) | with_reducible refine cN (cFe (by assumption) ?_) | with_reducible refine cTe rfl ?_ | with_reducible refine cEq (by assumption) ?_ | with_reducible refine cTt ?_ | with_reducible refine cNt ?_ | with_reducible refine cF (Eq.refl false) ?_ | with_reducible refine cN (cF (Eq.refl false) ?_) | with_reducible refine cTd (by omega) ?_ | with_reducible refine cFd (by omega) ?_ | with_reducible refine cN (cTd (by omega) ?_) | with_reducible refine cN (cFd (by omega) ?_) | with_reducible refine And.intro (fun hh : Option.isSome none = true => by cases hh) ?_ | with_reducible refine And.intro (by omega) ?_)
  by_cases a3 : n2 < 0
  · repeat ((conv => whnf) <;> first | with_reducible refine wI (by omega) ?_ | with_reducible refine wB (by omega) ?_ | with_reducible refine wR (by omega) ?_ | with_reducible refine wQ (by omega) ?_ |  with_reducible rfl | with_reducible refine And.intro (by assumption) ?_ | with_reducible refine cTe (by assumption) ?_ | with_reducible refine cFe (by assumption) ?_ | with_reducible refine cN (cTe (by assumption) ?_) | with_reducible refine cN (cFe (by assumption) ?_) | with_reducible refine cTe rfl ?_ | with_reducible refine cEq (by assumption) ?_ | with_reducible refine cTt ?_ | with_reducible refine cNt ?_ | with_reducible refine cF (Eq.refl false) ?_ | with_reducible refine cN (cF (Eq.refl false) ?_) | with_reducible refine cTd (by omega) ?_ | with_reducible refine cFd (by omega) ?_ | with_reducible refine cN (cTd (by omega) ?_) | with_reducible refine cN (cFd (by omega) ?_) | with_reducible refine And.intro (fun hh : Option.isSome none = true => by cases hh) ?_ | with_reducible refine And.intro (by omega) ?_)
  by_cases a4 : n2 > 65535
  · repeat ((conv => whnf) <;> first | with_reducible refine wI (by omega) ?_ | with_reducible refine wB (by omega) ?_ | with_reducible refine wR (by omega) ?_ | with_reducible refine wQ (by omega) ?_ |  with_reducible rfl | with_reducible refine And.intro (by assumption) ?_ | with_reducible refine cTe (by assumption) ?_ | with_reducible refine cFe (by assumption) ?_ | with_reducible refine cN (cTe (by assumption) ?_) | with_reducible refine cN (cFe (by assumption) ?_) | with_reducible refine cTe rfl ?_ | with_reducible refine cEq (by assumption) ?_ | with_reducible refine cTt ?_ | with_reducible refine cNt ?_ | with_reducible refine cF (Eq.refl false) ?_ | with_reducible refine cN (cF (Eq.refl false) ?_) | with_reducible refine cTd (by omega) ?_ | with_reducible refine cFd (by omega) ?_ | with_reducible refine cN (cTd (by omega) ?_) | with_reducible refine cN (cFd (by omega) ?_) | with_reducible refine And.intro (fun hh : Option.isSome none = true => by cases hh) ?_ | with_reducible refine And.intro (by omega) ?_)
  have hp := prod_bd (m := n1) (n := n2) ⟨by omega, by omega⟩ ⟨by omega, by omega⟩
  obtain ⟨q1, e1⟩ := numB2_ok (m := n1) ⟨by omega, by omega⟩
  obtain ⟨q2, e2⟩ := numB2_ok (m := n2) ⟨by omega, by omega⟩
  obtain ⟨q3, e3⟩ := numB4_ok (m := n1 * n2) ⟨by omega, by omega⟩
  have eM : ladU (ladU (z (bval b3)) n1.toNat) n2.toNat = ladU (z (bval b3)) (n1 * n2).toNat := by
    rw [ladU_mul]; congr 1
    rw [Int.toNat_mul (by omega) (by omega)]
  have g1 : (numB2 n1).length = 2 := rfl
  have g2 : (numB2 n2).length = 2 := rfl
  have g3 : (numB4 (n1 * n2)).length = 4 := rfl
  repeat ((conv => whnf) <;> first | with_reducible refine wI (by omega) ?_ | with_reducible refine wB (by omega) ?_ | with_reducible refine wR (by omega) ?_ | with_reducible refine wQ (by omega) ?_ |  with_reducible rfl | with_reducible refine And.intro (by assumption) ?_ | with_reducible refine cTe (by assumption) ?_ | with_reducible refine cFe (by assumption) ?_ | with_reducible refine cN (cTe (by assumption) ?_) | with_reducible refine cN (cFe (by assumption) ?_) | with_reducible refine cTe rfl ?_ | with_reducible refine cEq (by assumption) ?_ | with_reducible refine cTt ?_ | with_reducible refine cNt ?_ | with_reducible refine cF (Eq.refl false) ?_ | with_reducible refine cN (cF (Eq.refl false) ?_) | with_reducible refine cTd (by omega) ?_ | with_reducible refine cFd (by omega) ?_ | with_reducible refine cN (cTd (by omega) ?_) | with_reducible refine cN (cFd (by omega) ?_) | with_reducible refine And.intro (fun hh : Option.isSome none = true => by cases hh) ?_ | with_reducible refine And.intro (by omega) ?_)
  refine And.intro rfl ?_
  (conv => whnf)
  refine ⟨[.isl .u8 (numB2 n1), .el (z (bval b3))], ⟨Sub.refl' _, Sub.refl' _, trivial⟩, ?_⟩
  generalize numB2 n1 = l1 at *
  (conv => whnf)
  refine ⟨q1, fun h => absurd h (by omega), fun _ => ⟨rfl, ?_⟩⟩
  rw [e1]
  repeat ((conv => whnf) <;> first | with_reducible refine wI (by omega) ?_ | with_reducible refine wB (by omega) ?_ | with_reducible refine wR (by omega) ?_ | with_reducible refine wQ (by omega) ?_ |  with_reducible rfl | with_reducible refine And.intro (by assumption) ?_ | with_reducible refine cTe (by assumption) ?_ | with_reducible refine cFe (by assumption) ?_ | with_reducible refine cN (cTe (by assumption) ?_) | with_reducible refine cN (cFe (by assumption) ?_) | with_reducible refine cTe rfl ?_ | with_reducible refine cEq (by assumption) ?_ | with_reducible refine cTt ?_ | with_reducible refine cNt ?_ | with_reducible refine cF (Eq.refl false) ?_ | with_reducible refine cN (cF (Eq.refl false) ?_) | with_reducible refine cTd (by omega) ?_ | with_reducible refine cFd (by omega) ?_ | with_reducible refine cN (cTd (by omega) ?_) | with_reducible refine cN (cFd (by omega) ?_) | with_reducible refine And.intro (fun hh : Option.isSome none = true => by cases hh) ?_ | with_reducible refine And.intro (by omega) ?_)
  refine And.intro rfl ?_
  (conv => whnf)
  refine ⟨[.isl .u8 (numB2 n2), _], ⟨Sub.refl' _, Sub.refl' _, trivial⟩, ?_⟩
  generalize numB2 n2 = l2 at *
  (conv => whnf)
  refine ⟨q2, fun h => absurd h (by omega), fun _ => ⟨rfl, ?_⟩⟩
  rw [e2]
  repeat ((conv => whnf) <;> first | with_reducible refine wI (by omega) ?_ | with_reducible refine wB (by omega) ?_ | with_reducible refine wR (by omega) ?_ | with_reducible refine wQ (by omega) ?_ |  with_reducible rfl | with_reducible refine And.intro (by assumption) ?_ | with_reducible refine cTe (by assumption) ?_ | with_reducible refine cFe (by assumption) ?_ | with_reducible refine cN (cTe (by assumption) ?_) | with_reducible refine cN (cFe (by assumption) ?_) | with_reducible refine cTe rfl ?_ | with_reducible refine cEq (by assumption) ?_ | with_reducible refine cTt ?_ | with_reducible refine cNt ?_ | with_reducible refine cF (Eq.refl false) ?_ | with_reducible refine cN (cF (Eq.refl false) ?_) | with_reducible refine cTd (by omega) ?_ | with_reducible refine cFd (by omega) ?_ | with_reducible refine cN (cTd (by omega) ?_) | with_reducible refine cN (cFd (by omega) ?_) | with_reducible refine And.intro (fun hh : Option.isSome none = true => by cases hh) ?_ | with_reducible refine And.intro (by omega) ?_)
  refine And.intro rfl ?_
  (conv => whnf)
  refine ⟨[.isl .u8 (numB4 (n1 * n2)), .el (z (bval b3))], ⟨Sub.refl' _, Sub.refl' _, trivial⟩, ?_⟩
  generalize numB4 (n1 * n2) = l3 at *
  (conv => whnf)
  refine ⟨q3, fun h => absurd h (by omega), fun _ => ⟨rfl, ?_⟩⟩
  rw [e3]
  repeat ((conv => whnf) <;> first | with_reducible refine wI (by omega) ?_ | with_reducible refine wB (by omega) ?_ | with_reducible refine wR (by omega) ?_ | with_reducible refine wQ (by omega) ?_ |  with_reducible rfl | with_reducible refine And.intro (by assumption) ?_ | with_reducible refine cTe (by assumption) ?_ | with_reducible refine cFe (by assumption) ?_ | with_reducible refine cN (cTe (by assumption) ?_) | with_reducible refine cN (cFe (by assumption) ?_) | with_reducible refine cTe rfl ?_ | with_reducible refine cEq (by assumption) ?_ | with_reducible refine cTt ?_ | with_reducible refine cNt ?_ | with_reducible refine cF (Eq.refl false) ?_ | with_reducible refine cN (cF (Eq.refl false) ?_) | with_reducible refine cTd (by omega) ?_ | with_reducible refine cFd (by omega) ?_ | with_reducible refine cN (cTd (by omega) ?_) | with_reducible refine cN (cFd (by omega) ?_) | with_reducible refine And.intro (fun hh : Option.isSome none = true => by cases hh) ?_ | with_reducible refine And.intro (by omega) ?_)
set_option maxRecDepth 100000 in
theorem lproducts_any (n1 : Int) (r1 : I64 n1) (n2 : Int) (r2 : I64 n2) (b3 : List Int) (lb3 : b3.length = 56) (yb3 : By b3) (w : World) : Calls Try.prog 6 #[.int .i64 n1, .int .i64 n2, AG (ys b3)] w (OutV (.bool true) w) :=
  law_tree tjM_ok o_lproducts [.atom (.var 0), .atom (.var 1), .agg [.whole 2 56]] [.int .i64 n1, .int .i64 n2, AG (ys b3)] [.int .i64 n1, .int .i64 n2, .ints .u8 b3] Try.func6 rfl c_lproducts rfl (by intro x hx; simp only [List.mem_cons, List.not_mem_nil, or_false] at hx; rcases hx with rfl | rfl | rfl <;> first | exact ok_one rfl rfl | exact ok_one rfl rfl | exact ok_arr rfl lb3) ⟨_, _, rfl, int_val n1, ⟨_, _, rfl, int_val n2, ⟨_, _, rfl, arr_val b3, rfl⟩⟩⟩ g_lproducts (aw_lproducts n1 r1 n2 r2 b3 lb3 yb3)
end Go.Proofs.Ytmbapbbneapcnaa
