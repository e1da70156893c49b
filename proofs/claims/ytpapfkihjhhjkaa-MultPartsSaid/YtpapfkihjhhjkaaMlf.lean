/- MultParts -/
import Derived.Test.YtpapfkihjhhjkaaMle
import Derived.Test.YtpapfkihjhhjkaaDge
set_option linter.unusedSimpArgs false
set_option linter.unusedVariables false
namespace Go.Proofs.Ytpapfkihjhhjkaa
open Go.RowKit FdP FdP.Ch
theorem nval_more (l : List Int) : nval (l ++ [0]) = nval l := by
  unfold nval; rw [bval_app]
  have : bval [0] = 0 := by decide
  rw [this, Int.mul_zero, Int.add_zero]
theorem by_more {l : List Int} (h : By l) : By (l ++ [0]) := fun x hx => by
  rcases List.mem_append.1 hx with hx | hx
  · exact h x hx
  · simp only [List.mem_cons, List.not_mem_nil, or_false] at hx; subst hx; omega
theorem two_terms {a b : List Int} {p : List Int × G → Prop} {g : G} (ha : p (a, g)) (hb : p (b, g)) : ∀ t ∈ [(a, g), (b, g)], p t := fun t ht => by
  simp only [List.mem_cons, List.not_mem_nil, or_false] at ht
  rcases ht with rfl | rfl <;> assumption
def tmK : Tab := tb_awake12 :: tb_made11 :: tb_mult :: tb_radd3 :: tb_bothm :: tb_summ :: tb_pneg :: tb_peq :: []
theorem tmK_ok : tmK.OK Try.prog := tab_cons tb_awake12_ok <| tab_cons tb_made11_ok <| tab_cons tb_mult_ok <| tab_cons tb_radd3_ok <| tab_cons tb_bothm_ok <| tab_cons tb_summ_ok <| tab_cons tb_pneg_ok <| tab_cons tb_peq_ok <| tab_nil _
def o_multparts : Orc := { ans := [(20, .one ⟨.leaf (.agg [.one (.var 0), .one (.var 1)]), 2, []⟩), (21, .two ⟨.tup [.agg [.whole 0 24], .agg [.whole 1 48], .atom (.const (.bool true))], 2, []⟩ ⟨.tup [.agg [.whole 0 24], .agg [.whole 1 48], .atom (.const (.bool false))], 2, []⟩), (26, oV), (28, oV), (29, oV), (30, oV), (31, oB), (32, oV), (34, oV), (35, oV), (36, oV), (37, oB), (38, oV), (40, oV), (41, oV), (42, oV), (43, oB), (44, oV), (46, oV), (47, oV), (48, oV), (49, oB), (50, oV), (51, oB), (53, oV), (54, oV), (55, oV), (56, oV), (57, oV), (58, oV), (61, oV), (64, oA 24), (65, .one ⟨.tup [.agg [.whole 0 24], .atom (.var 1)], 2, []⟩), (69, oV), (70, oV), (71, oA 24), (72, oV), (73, oV), (74, oA 24), (75, .one ⟨.tup [.agg [.whole 0 24], .atom (.var 1)], 2, []⟩), (79, oV), (80, oV), (81, oA 24), (83, oV), (84, oV), (85, oA 24), (88, .one ⟨.tup [.agg [.whole 0 24], .atom (.var 1)], 2, []⟩), (93, oA 24), (94, oV), (95, oV), (96, oA 24), (97, oA 24), (98, .one ⟨.tup [.agg [.whole 0 24], .atom (.var 1)], 2, []⟩), (102, oV), (103, oV), (104, oA 24), (105, .one ⟨.tup [.agg [.whole 0 24], .atom (.var 1)], 2, []⟩), (109, oB), (112, oB), (113, oV), (116, oB), (117, oV), (120, oB), (121, oV), (124, oB), (125, oV), (127, oA 24), (128, oA 24), (129, oB), (130, oV), (132, oA 24), (133, oA 24), (134, oB), (135, oV), (137, oA 24), (138, oA 24), (139, oB), (140, oV), (142, oB), (143, oV)], lps := [], ords := [(10, [.pure 0, .quiet 1, .quiet 2, .quiet 3, .quiet 4, .call 5 [10], .call 6 [10], .pure 7, .pure 8, .pure 9, .make 10 [], .last 11, .last 12])] }
def t_multparts : Tree :=
 .new <|
 .new <|
 .call2 6 [.agg [.one (.var 0), .one (.var 1)]] ([], []) (.tup [.agg [.whole 4 24], .agg [.whole 5 48], .atom (.const (.bool true))]) 2 [] (
 .new <|
 .new <|
 .calc (.call { callee := .builtin .len, args := #[.tmp 29], argTypes := #[22] }) 3 [(29, qv 2)] ([], []) (qv 6) 1 <|
 .calc2 (.binOp .lss 3 (.tmp 30) (.const (.int .i64 1)) 3) 4 [(30, qv 6)] ([], []) qT 0 (
 .call2 7 [] ([], []) qT 0 [] (
 .ret ([], []) qT) qF 0 [] <|
 .ret ([], []) qF) qF 0 <|
 .calc (.call { callee := .builtin .len, args := #[.tmp 35], argTypes := #[22] }) 3 [(35, qv 2)] ([], []) (qv 7) 1 <|
 .calc2 (.binOp .gtr 3 (.tmp 36) (.const (.int .i64 12)) 3) 4 [(36, qv 7)] ([], []) qT 0 (
 .call2 7 [] ([], []) qT 0 [] (
 .ret ([], []) qT) qF 0 [] <|
 .ret ([], []) qF) qF 0 <|
 .calc (.call { callee := .builtin .len, args := #[.tmp 41], argTypes := #[22] }) 3 [(41, qv 3)] ([], []) (qv 8) 1 <|
 .calc2 (.binOp .lss 3 (.tmp 42) (.const (.int .i64 1)) 3) 4 [(42, qv 8)] ([], []) qT 0 (
 .call2 7 [] ([], []) qT 0 [] (
 .ret ([], []) qT) qF 0 [] <|
 .ret ([], []) qF) qF 0 <|
 .calc (.call { callee := .builtin .len, args := #[.tmp 47], argTypes := #[22] }) 3 [(47, qv 3)] ([], []) (qv 9) 1 <|
 .calc2 (.binOp .gtr 3 (.tmp 48) (.const (.int .i64 12)) 3) 4 [(48, qv 9)] ([], []) qT 0 (
 .call2 7 [] ([], []) qT 0 [] (
 .ret ([], []) qT) qF 0 [] <|
 .ret ([], []) qF) qF 0 <|
 .call 14 [.atom (.var 2), .atom (.var 3)] ([], []) (qv 10) 1 [] <|
 .appv none 10 1 <|
 .new <|
 .app (some 12) [.one (.const (.int .u8 0))] 1 <|
 .frz 13 14 ([([.one (.var 0), .one (.var 1)], 24), ([.one (.var 2), .one (.var 3)], 25), ([.whole 4 24], 31), ([.whole 5 48], 35), ([.one (.const (.int .u8 0))], 5)], [⟨13, 14, 5, 1⟩]) <|
 .call 8 [.atom (.var 13), .agg [.whole 4 24]] ([], []) (.tup [.agg [.whole 15 24], .atom (.var 16)]) 2 [] <|
 .new <|
 .call 15 [.atom (.var 2), .agg [.whole 4 24], .atom (.var 3), .agg [.whole 4 24]] ([], []) (.tup [.agg [.whole 17 24], .atom (.var 18)]) 2 [] <|
 .new <|
 .new <|
 .call 16 [.atom (.slc 7 0 2 2)] ([([.one (.var 0), .one (.var 1)], 24), ([.one (.var 2), .one (.var 3)], 25), ([.whole 4 24], 31), ([.whole 5 48], 35), ([.one (.const (.int .u8 0))], 5), ([.whole 15 24], 31), ([.whole 17 24], 31), ([.one (.var 2), .whole 4 24, .one (.var 3), .whole 4 24], 52)], []) (.tup [.agg [.whole 19 24], .atom (.var 20)]) 2 [] <|
 .new <|
 .call 17 [.agg [.whole 4 24]] ([], []) (.leaf (.agg [.whole 21 24])) 1 [] <|
 .call 15 [.atom (.var 13), .agg [.whole 4 24], .atom (.var 3), .agg [.whole 21 24]] ([], []) (.tup [.agg [.whole 22 24], .atom (.var 23)]) 2 [] <|
 .new <|
 .call 8 [.atom (.var 2), .agg [.whole 4 24]] ([], []) (.tup [.agg [.whole 24 24], .atom (.var 25)]) 2 [] <|
 .new <|
 .calc2 (.binOp .eql 39 (.tmp 108) (.const (.int .i64 0)) 39) 4 [(108, qv 16)] ([], []) qT 0 (
 .calc2 (.binOp .eql 39 (.tmp 111) (.const (.int .i64 0)) 39) 4 [(111, qv 18)] ([], []) qT 0 (
 .calc2 (.binOp .eql 39 (.tmp 115) (.const (.int .i64 0)) 39) 4 [(115, qv 20)] ([], []) qT 0 (
 .calc2 (.binOp .eql 39 (.tmp 119) (.const (.int .i64 0)) 39) 4 [(119, qv 23)] ([], []) qT 0 (
 .calc2 (.binOp .eql 39 (.tmp 123) (.const (.int .i64 0)) 39) 4 [(123, qv 25)] ([], []) qT 0 (
 .call2 10 [.agg [.whole 15 24], .agg [.whole 17 24]] ([], []) qT 0 [] (
 .call2 10 [.agg [.whole 15 24], .agg [.whole 19 24]] ([], []) qT 0 [] (
 .call2 10 [.agg [.whole 22 24], .agg [.whole 24 24]] ([], []) qT 0 [] (
 .call2 7 [] ([], []) qT 0 [] (
 .ret ([], []) qT) qF 0 [] <|
 .ret ([], []) qF) qF 0 [] <|
 .ret ([], []) qF) qF 0 [] <|
 .ret ([], []) qF) qF 0 [] <|
 .ret ([], []) qF) qF 0 <|
 .ret ([], []) qF) qF 0 <|
 .ret ([], []) qF) qF 0 <|
 .ret ([], []) qF) qF 0 <|
 .ret ([], []) qF) qF 0 <|
 .ret ([], []) qF) (.tup [.agg [.whole 4 24], .agg [.whole 5 48], .atom (.const (.bool false))]) 2 [] <|
 .new <|
 .new <|
 .call2 7 [] ([], []) qT 0 [] (
 .ret ([], []) qT) qF 0 [] <|
 .ret ([], []) qF
theorem c_multparts : compF Try.prog Try.f5 o_multparts (Try.f5.body.getD .skip) (symIn [.agg [.one (.var 0), .one (.var 1)], .agg [.one (.var 2), .one (.var 3)]] Try.f5.ntmps 4) = some t_multparts := by kernel_rfl
theorem g_multparts : goodC Try.prog o_multparts.ords (Try.f5.body.getD .skip) = true := by kernel_rfl
set_option maxRecDepth 100000 in
set_option maxHeartbeats 1000000 in
theorem aw_multparts (b1 : List Int) (yb1 : By b1) (n1 : Int) (r1 : I64 n1) (b2 : List Int) (yb2 : By b2) (c2 : List Int) (yc2 : By c2) : AWp Try.prog tmK (fun a => a = .bool true) t_multparts [] [.isl .u8 b1, .int .i64 n1, .isl .u8 b2, .isl .u8 c2] := by
  repeat ((conv => whnf) <;> first | with_reducible first | refine wI (by omega) ?_ | refine wB (by omega) ?_ | refine And.intro rfl ?_ | rfl | refine And.intro ‹_› ?_ | refine cTe ‹_› ?_ | refine cFe ‹_› ?_ | refine cN (cTe ‹_› ?_) | refine cN (cFe ‹_› ?_) | refine cTe rfl ?_ | refine cEq ‹_› ?_ | refine cTt ?_ | refine cNt ?_ | refine cF (Eq.refl false) ?_ | refine cN (cF (Eq.refl false) ?_) | refine cTd (by omega) ?_ | refine cFd (by omega) ?_ | refine cN (cTd (by omega) ?_) | refine cN (cFd (by omega) ?_) | refine And.intro (by omega) ?_ | refine And.intro (Eq.refl true) ?_ | refine And.intro (Eq.refl (1 : Nat)) ?_)
  refine ⟨fun hh => by repeat ((conv => whnf) <;> first | with_reducible first | refine wI (by omega) ?_ | refine wB (by omega) ?_ | refine And.intro rfl ?_ | rfl | refine And.intro ‹_› ?_ | refine cTe ‹_› ?_ | refine cFe ‹_› ?_ | refine cN (cTe ‹_› ?_) | refine cN (cFe ‹_› ?_) | refine cTe rfl ?_ | refine cEq ‹_› ?_ | refine cTt ?_ | refine cNt ?_ | refine cF (Eq.refl false) ?_ | refine cN (cF (Eq.refl false) ?_) | refine cTd (by omega) ?_ | refine cFd (by omega) ?_ | refine cN (cTd (by omega) ?_) | refine cN (cFd (by omega) ?_) | refine And.intro (by omega) ?_ | refine And.intro (Eq.refl true) ?_ | refine And.intro (Eq.refl (1 : Nat)) ?_), fun k1 k2 k3 => ?_⟩
  generalize sgG b1 n1 = g
  by_cases a1 : (b2.length : Int) < 1
  · repeat ((conv => whnf) <;> first | with_reducible first | refine wI (by omega) ?_ | refine wB (by omega) ?_ | refine And.intro rfl ?_ | rfl | refine And.intro ‹_› ?_ | refine cTe ‹_› ?_ | refine cFe ‹_› ?_ | refine cN (cTe ‹_› ?_) | refine cN (cFe ‹_› ?_) | refine cTe rfl ?_ | refine cEq ‹_› ?_ | refine cTt ?_ | refine cNt ?_ | refine cF (Eq.refl false) ?_ | refine cN (cF (Eq.refl false) ?_) | refine cTd (by omega) ?_ | refine cFd (by omega) ?_ | refine cN (cTd (by omega) ?_) | refine cN (cFd (by omega) ?_) | refine And.intro (by omega) ?_ | refine And.intro (Eq.refl true) ?_ | refine And.intro (Eq.refl (1 : Nat)) ?_)
  by_cases a2 : (b2.length : Int) > 12
  · repeat ((conv => whnf) <;> first | with_reducible first | refine wI (by omega) ?_ | refine wB (by omega) ?_ | refine And.intro rfl ?_ | rfl | refine And.intro ‹_› ?_ | refine cTe ‹_› ?_ | refine cFe ‹_› ?_ | refine cN (cTe ‹_› ?_) | refine cN (cFe ‹_› ?_) | refine cTe rfl ?_ | refine cEq ‹_› ?_ | refine cTt ?_ | refine cNt ?_ | refine cF (Eq.refl false) ?_ | refine cN (cF (Eq.refl false) ?_) | refine cTd (by omega) ?_ | refine cFd (by omega) ?_ | refine cN (cTd (by omega) ?_) | refine cN (cFd (by omega) ?_) | refine And.intro (by omega) ?_ | refine And.intro (Eq.refl true) ?_ | refine And.intro (Eq.refl (1 : Nat)) ?_)
  by_cases a3 : (c2.length : Int) < 1
  · repeat ((conv => whnf) <;> first | with_reducible first | refine wI (by omega) ?_ | refine wB (by omega) ?_ | refine And.intro rfl ?_ | rfl | refine And.intro ‹_› ?_ | refine cTe ‹_› ?_ | refine cFe ‹_› ?_ | refine cN (cTe ‹_› ?_) | refine cN (cFe ‹_› ?_) | refine cTe rfl ?_ | refine cEq ‹_› ?_ | refine cTt ?_ | refine cNt ?_ | refine cF (Eq.refl false) ?_ | refine cN (cF (Eq.refl false) ?_) | refine cTd (by omega) ?_ | refine cFd (by omega) ?_ | refine cN (cTd (by omega) ?_) | refine cN (cFd (by omega) ?_) | refine And.intro (by omega) ?_ | refine And.intro (Eq.refl true) ?_ | refine And.intro (Eq.refl (1 : Nat)) ?_)
  by_cases a4 : (c2.length : Int) > 12
  · repeat ((conv => whnf) <;> first | with_reducible first | refine wI (by omega) ?_ | refine wB (by omega) ?_ | refine And.intro rfl ?_ | rfl | refine And.intro ‹_› ?_ | refine cTe ‹_› ?_ | refine cFe ‹_› ?_ | refine cN (cTe ‹_› ?_) | refine cN (cFe ‹_› ?_) | refine cTe rfl ?_ | refine cEq ‹_› ?_ | refine cTt ?_ | refine cNt ?_ | refine cF (Eq.refl false) ?_ | refine cN (cF (Eq.refl false) ?_) | refine cTd (by omega) ?_ | refine cFd (by omega) ?_ | refine cN (cTd (by omega) ?_) | refine cN (cFd (by omega) ?_) | refine And.intro (by omega) ?_ | refine And.intro (Eq.refl true) ?_ | refine And.intro (Eq.refl (1 : Nat)) ?_)
  have m0 : By b2 ∧ By c2 ∧ b2.length ≤ 100000 ∧ c2.length ≤ 100000 := ⟨yb2, yc2, by omega, by omega⟩
  have m1 : By b2 ∧ b2.length ≤ 100000 := ⟨yb2, by omega⟩
  have m2 : By c2 ∧ c2.length ≤ 100000 := ⟨yc2, by omega⟩
  obtain ⟨s1, s2, s3⟩ := sum_cut yb2 yc2
  have s4 : mxl b2 c2 ≤ 12 := by unfold mxl; split <;> omega
  have m5 : (cutL (addL b2 c2) ++ [0]).length = (cutL (addL b2 c2)).length + 1 := by rw [List.length_append]; rfl
  have m4 : By (cutL (addL b2 c2) ++ [0]) ∧ (cutL (addL b2 c2) ++ [0]).length ≤ 100000 := ⟨by_more s2, by omega⟩
  have m3 : By (cutL (addL b2 c2) ++ [0]) ∧ By c2 ∧ (cutL (addL b2 c2) ++ [0]).length ≤ 100000 ∧ c2.length ≤ 100000 := ⟨m4.1, yc2, m4.2, by omega⟩
  have m6 : (AV.ints .u8 (cutL (addL b2 c2))).size ≤ 1000000 := by show (cutL (addL b2 c2)).length ≤ _; omega
  have m7 : (AV.ints .u8 (cutL (addL b2 c2) ++ [0])).size ≤ 1000000 := by show (cutL (addL b2 c2) ++ [0]).length ≤ _; omega
  have e1 : mulG (nval (cutL (addL b2 c2) ++ [0])) g = mulG (nval b2) g + mulG (nval c2) g := by rw [nval_more, s1, mulG_add]
  have e2 : mulG (nval (cutL (addL b2 c2) ++ [0])) g = sumK [(b2, g), (c2, g)] [(b2, g), (c2, g)].length := by
    rw [e1]; show _ = 0 + mulG (nval b2) g + mulG (nval c2) g; rw [G.zero_add]
  have e3 : mulG (nval (cutL (addL b2 c2) ++ [0])) g + mulG (nval c2) (-g) = mulG (nval b2) g := by rw [e1, mulG_neg, G.sub_add]
  repeat ((conv => whnf) <;> first | with_reducible first | refine wI (by omega) ?_ | refine wB (by omega) ?_ | refine And.intro rfl ?_ | rfl | refine And.intro ‹_› ?_ | refine cTe ‹_› ?_ | refine cFe ‹_› ?_ | refine cN (cTe ‹_› ?_) | refine cN (cFe ‹_› ?_) | refine cTe rfl ?_ | refine cEq ‹_› ?_ | refine cTt ?_ | refine cNt ?_ | refine cF (Eq.refl false) ?_ | refine cN (cF (Eq.refl false) ?_) | refine cTd (by omega) ?_ | refine cFd (by omega) ?_ | refine cN (cTd (by omega) ?_) | refine cN (cFd (by omega) ?_) | refine And.intro (by omega) ?_ | refine And.intro (Eq.refl true) ?_ | refine And.intro (Eq.refl (1 : Nat)) ?_)
  intro _ _
  repeat ((conv => whnf) <;> first | with_reducible first | refine wI (by omega) ?_ | refine wB (by omega) ?_ | refine And.intro rfl ?_ | rfl | refine And.intro ‹_› ?_ | refine cTe ‹_› ?_ | refine cFe ‹_› ?_ | refine cN (cTe ‹_› ?_) | refine cN (cFe ‹_› ?_) | refine cTe rfl ?_ | refine cEq ‹_› ?_ | refine cTt ?_ | refine cNt ?_ | refine cF (Eq.refl false) ?_ | refine cN (cF (Eq.refl false) ?_) | refine cTd (by omega) ?_ | refine cFd (by omega) ?_ | refine cN (cTd (by omega) ?_) | refine cN (cFd (by omega) ?_) | refine And.intro (by omega) ?_ | refine And.intro (Eq.refl true) ?_ | refine And.intro (Eq.refl (1 : Nat)) ?_)
  intro _ _ _ _
  repeat ((conv => whnf) <;> first | with_reducible first | refine wI (by omega) ?_ | refine wB (by omega) ?_ | refine And.intro rfl ?_ | rfl | refine And.intro ‹_› ?_ | refine cTe ‹_› ?_ | refine cFe ‹_› ?_ | refine cN (cTe ‹_› ?_) | refine cN (cFe ‹_› ?_) | refine cTe rfl ?_ | refine cEq ‹_› ?_ | refine cTt ?_ | refine cNt ?_ | refine cF (Eq.refl false) ?_ | refine cN (cF (Eq.refl false) ?_) | refine cTd (by omega) ?_ | refine cFd (by omega) ?_ | refine cN (cTd (by omega) ?_) | refine cN (cFd (by omega) ?_) | refine And.intro (by omega) ?_ | refine And.intro (Eq.refl true) ?_ | refine And.intro (Eq.refl (1 : Nat)) ?_)
  refine And.intro ⟨rfl, by show 0 < 25; omega⟩ ?_
  (conv => whnf)
  refine ⟨[(b2, g), (c2, g)], rfl, two_terms (p := fun t => By t.1 ∧ t.1.length ≤ 100000) m1 m2, by show 2 ≤ 100000; omega, fun hh => absurd hh (by show ¬ 16 < 2; omega), fun _ _ => ?_, fun _ t ht ho => absurd (two_terms (p := okT) ⟨by show 1 ≤ b2.length; omega, by show b2.length ≤ 64; omega⟩ ⟨by show 1 ≤ c2.length; omega, by show c2.length ≤ 64; omega⟩ t ht) ho⟩
  repeat ((conv => whnf) <;> first | with_reducible first | refine wI (by omega) ?_ | refine wB (by omega) ?_ | refine And.intro rfl ?_ | rfl | refine And.intro ‹_› ?_ | refine cTe ‹_› ?_ | refine cFe ‹_› ?_ | refine cN (cTe ‹_› ?_) | refine cN (cFe ‹_› ?_) | refine cTe rfl ?_ | refine cEq ‹_› ?_ | refine cTt ?_ | refine cNt ?_ | refine cF (Eq.refl false) ?_ | refine cN (cF (Eq.refl false) ?_) | refine cTd (by omega) ?_ | refine cFd (by omega) ?_ | refine cN (cTd (by omega) ?_) | refine cN (cFd (by omega) ?_) | refine And.intro (by omega) ?_ | refine And.intro (Eq.refl true) ?_ | refine And.intro (Eq.refl (1 : Nat)) ?_)
  intro _ _ _ _
  repeat ((conv => whnf) <;> first | with_reducible first | refine wI (by omega) ?_ | refine wB (by omega) ?_ | refine And.intro rfl ?_ | rfl | refine And.intro ‹_› ?_ | refine cTe ‹_› ?_ | refine cFe ‹_› ?_ | refine cN (cTe ‹_› ?_) | refine cN (cFe ‹_› ?_) | refine cTe rfl ?_ | refine cEq ‹_› ?_ | refine cTt ?_ | refine cNt ?_ | refine cF (Eq.refl false) ?_ | refine cN (cF (Eq.refl false) ?_) | refine cTd (by omega) ?_ | refine cFd (by omega) ?_ | refine cN (cTd (by omega) ?_) | refine cN (cFd (by omega) ?_) | refine And.intro (by omega) ?_ | refine And.intro (Eq.refl true) ?_ | refine And.intro (Eq.refl (1 : Nat)) ?_)
  intro _ _
  repeat ((conv => whnf) <;> first | with_reducible first | refine wI (by omega) ?_ | refine wB (by omega) ?_ | refine And.intro rfl ?_ | rfl | refine And.intro ‹_› ?_ | refine cTe ‹_› ?_ | refine cFe ‹_› ?_ | refine cN (cTe ‹_› ?_) | refine cN (cFe ‹_› ?_) | refine cTe rfl ?_ | refine cEq ‹_› ?_ | refine cTt ?_ | refine cNt ?_ | refine cF (Eq.refl false) ?_ | refine cN (cF (Eq.refl false) ?_) | refine cTd (by omega) ?_ | refine cFd (by omega) ?_ | refine cN (cTd (by omega) ?_) | refine cN (cFd (by omega) ?_) | refine And.intro (by omega) ?_ | refine And.intro (Eq.refl true) ?_ | refine And.intro (Eq.refl (1 : Nat)) ?_)
set_option maxRecDepth 100000 in
theorem multparts_any (b1 : List Int) (yb1 : By b1) (v1 : Value) (n1 : Int) (r1 : I64 n1) (b2 : List Int) (yb2 : By b2) (v2 : Value) (c2 : List Int) (yc2 : By c2) (u2 : Value) (w : World) (s1 : Bv w v1 b1) (s2 : Bv w v2 b2) (z2 : Bv w u2 c2) : Calls Try.prog 5 #[AG [v1, .int .i64 n1], AG [v2, u2]] w (OutV (.bool true) w) :=
  law_tree tmK_ok o_multparts [.agg [.one (.var 0), .one (.var 1)], .agg [.one (.var 2), .one (.var 3)]] [v1, .int .i64 n1, v2, u2] [.isl .u8 b1, .int .i64 n1, .isl .u8 b2, .isl .u8 c2] Try.func5 rfl c_multparts (by simp [Leaf.den, catS, Seg.den, Atom.den, cellsAt, AG, Value.cells]) (by intro x hx; simp only [List.mem_cons, List.not_mem_nil, or_false] at hx; rcases hx with rfl | rfl <;> first | exact ok_two (v := v1) (v' := .int .i64 n1) rfl (bv_one s1) rfl rfl | exact ok_two (v := v2) (v' := u2) rfl (bv_one s2) rfl (bv_one z2)) ⟨_, _, rfl, bv_val s1, _, _, rfl, int_val n1, ⟨_, _, rfl, bv_val s2, _, _, rfl, bv_val z2, rfl⟩⟩ g_multparts (aw_multparts b1 yb1 n1 r1 b2 yb2 c2 yc2)
end Go.Proofs.Ytpapfkihjhhjkaa
