/- Chapter 13: TwistPoints -/
import Derived.Test.YtohebkkiicbdoaaTwd
import Derived.Test.YtohebkkiicbdoaaOpf
set_option linter.unusedSimpArgs false
set_option linter.unusedVariables false
namespace Go.Proofs.Ytohebkkiicbdoaa
open Go.RowKit FdP FdP.Ch
theorem ok_const {env : List Value} {v : Value} (h : v.oneCell' = true) : Leaf.OK env [] (.atom (.const v)) := h
theorem zb_ex : ∃ f : List Int → F, ∀ l, f l = z (bval l) := ⟨fun l => z (bval l), fun _ => rfl⟩
noncomputable def zbG : List Int → F := zb_ex.choose
theorem zbG_eq (l : List Int) : zbG l = z (bval l) := zb_ex.choose_spec l
def tTwo13 : Trans := fun zs Q => match zs with
 | [.isl .u8 b] => By b ∧ (¬ b.length = 56 → ∀ x y, Q (.tup [.el x, .fg y, .bool false])) ∧ (b.length = 56 → Q (.tup [.el (zbG b), .fg (zbG b), .bool true]))
 | _ => False
def twR : Tab := tb_int :: tb_rint :: tb_fof :: tb_rof :: []
theorem twR_ok : twR.OK Try.prog := tab_cons tb_int_ok <| tab_cons tb_rint_ok <| tab_cons tb_fof_ok <| tab_cons tb_rof_ok <| tab_nil _
def o_two13 : Orc := { ans := [(8, oV), (9, oB), (10, oA 8), (11, oA 16), (14, .one ⟨.tup [.agg [.whole 0 8], .atom (.var 1)], 2, []⟩), (17, oA 8), (19, oA 16), (21, oV)], lps := [], ords := [(4, [.quiet 0, .pure 1, .pure 3, .pure 4, .call 2 [], .last 5, .last 6, .last 7])] }
def t_two13 : Tree :=
 .new <|
 .new <|
 .calc (.call { callee := .builtin .len, args := #[.tmp 7], argTypes := #[22] }) 3 [(7, qv 0)] ([], []) (qv 1) 1 <|
 .calc2 (.binOp .neq 3 (.tmp 8) (.const (.int .i64 56)) 3) 4 [(8, qv 1)] ([], []) qT 0 (
 .call 33 [.atom (.const (.int .i64 0))] ([], []) (.leaf (.agg [.whole 2 8])) 1 [] <|
 .call 34 [.atom (.const (.int .i64 0))] ([], []) (.leaf (.agg [.whole 3 16])) 1 [] <|
 .ret ([], []) (.tup [.agg [.whole 2 8], .agg [.whole 3 16], .atom (.const (.bool false))])) qF 0 <|
 .call 35 [.atom (.var 0)] ([], []) (.tup [.agg [.whole 2 8], .atom (.var 3)]) 2 [] <|
 .new <|
 .pcalc (.binOp .eql 49 (.tmp 20) (.const (.int .i64 0)) 49) 4 [(20, qv 3)] (qv 4) 1 <|
 .call 36 [.atom (.var 0)] ([], []) (.leaf (.agg [.whole 5 16])) 1 [] <|
 .ret ([], []) (.tup [.agg [.whole 2 8], .agg [.whole 5 16], .atom (.var 4)])
theorem c_two13 : compF Try.prog Try.f7 o_two13 (Try.f7.body.getD .skip) (symIn [.atom (.var 0)] Try.f7.ntmps 1) = some t_two13 := by kernel_rfl
theorem g_two13 : goodC Try.prog o_two13.ords (Try.f7.body.getD .skip) = true := by kernel_rfl
def tb_two13 : FuncId × Trans := (7, tTwo13)
set_option maxRecDepth 100000 in
theorem aw_two13 : ∀ zs Q, tb_two13.2 zs Q → bindLs 0 [.atom (.var 0)] zs fun ae => bif Nat.beq ae.length 1 then AWp Try.prog twR Q t_two13 [] ae else False := by
 intro zs Q h
 replace h : tTwo13 zs Q := h
 unfold tTwo13 at h
 split at h
 case h_2 => exact h.elim
 rename_i b
 obtain ⟨hb, h1, h2⟩ := h
 have i0 : I64 0 := by unfold I64; omega
 by_cases a1 : b.length = 56
 ·have h := h2 a1
  have m : b.length = 56 ∧ By b := ⟨a1, hb⟩
  rw [zbG_eq] at h
  repeat ((conv => whnf) <;> first | with_reducible first | refine wI (by omega) ?_ | refine wB (by omega) ?_ | refine And.intro rfl ?_ | rfl | refine And.intro ‹_› ?_ | refine cTe ‹_› ?_ | refine cFe ‹_› ?_ | refine cN (cTe ‹_› ?_) | refine cN (cFe ‹_› ?_) | refine cTe rfl ?_ | refine cEq ‹_› ?_ | refine cTt ?_ | refine cNt ?_ | refine cF (Eq.refl false) ?_ | refine cN (cF (Eq.refl false) ?_) | refine cTd (by omega) ?_ | refine cFd (by omega) ?_ | refine cN (cTd (by omega) ?_) | refine cN (cFd (by omega) ?_) | refine And.intro (by omega) ?_ | refine And.intro (Eq.refl true) ?_)
  (conv => whnf)
  exact h
 ·have h := h1 a1 (z 0) (z 0)
  repeat ((conv => whnf) <;> first | with_reducible first | refine wI (by omega) ?_ | refine wB (by omega) ?_ | refine And.intro rfl ?_ | rfl | refine And.intro ‹_› ?_ | refine cTe ‹_› ?_ | refine cFe ‹_› ?_ | refine cN (cTe ‹_› ?_) | refine cN (cFe ‹_› ?_) | refine cTe rfl ?_ | refine cEq ‹_› ?_ | refine cTt ?_ | refine cNt ?_ | refine cF (Eq.refl false) ?_ | refine cN (cF (Eq.refl false) ?_) | refine cTd (by omega) ?_ | refine cFd (by omega) ?_ | refine cN (cTd (by omega) ?_) | refine cN (cFd (by omega) ?_) | refine And.intro (by omega) ?_ | refine And.intro (Eq.refl true) ?_)
  (conv => whnf)
  exact h
theorem tb_two13_ok : Con Try.prog tb_two13.1 tb_two13.2 := con_tree twR_ok o_two13 [.atom (.var 0)] 1 Try.func7 rfl c_two13 aw_two13 g_two13
def twS : Tab := tb_awake13 :: tb_two13 :: tb_made11 :: tb_tto :: tb_taff13 :: tb_rto :: tb_tof13 :: tb_ront :: tb_samet :: []
theorem twS_ok : twS.OK Try.prog := tab_cons tb_awake13_ok <| tab_cons tb_two13_ok <| tab_cons tb_made11_ok <| tab_cons tb_tto_ok <| tab_cons tb_taff13_ok <| tab_cons tb_rto_ok <| tab_cons tb_tof13_ok <| tab_cons tb_ront_ok <| tab_cons tb_samet_ok <| tab_nil _
def o_tpointsF : Orc := { ans := [(20, oV), (21, oV), (22, .two ⟨.tup [.agg [.whole 0 8], .agg [.whole 1 16], .atom (.const (.bool true))], 2, []⟩ ⟨.tup [.agg [.whole 0 8], .agg [.whole 1 16], .atom (.const (.bool false))], 2, []⟩), (27, oV), (28, oV), (29, .one ⟨.tup [.agg [.whole 0 8], .agg [.whole 1 16], .atom (.var 2)], 3, []⟩), (34, oV), (37, oV), (38, oV), (39, oB), (40, oA 16), (41, oA 16), (45, .one ⟨.leaf (.agg [.one (.var 0), .one (.var 1)]), 2, []⟩), (46, .one ⟨.tup [.agg [.whole 0 24], .agg [.whole 1 48], .atom (.var 2)], 3, []⟩), (51, oV), (52, oB), (54, oA 24), (55, .one ⟨.leaf (.agg [.whole 0 8, .whole 1 8]), 2, []⟩), (56, .one ⟨.tup [.agg [.whole 0 8], .agg [.whole 1 8]], 2, []⟩), (59, oA 48), (60, .one ⟨.leaf (.agg [.whole 0 16, .whole 1 16]), 2, []⟩), (62, oA 8), (63, oA 8), (64, .one ⟨.tup [.agg [.whole 0 8, .whole 1 8], .atom (.var 2)], 3, []⟩), (67, .one ⟨.leaf (.agg [.whole 0 16, .whole 1 16]), 2, []⟩), (68, oB), (69, oV), (71, oV), (74, oB), (75, oV), (77, oB), (78, oV), (80, oB), (82, .one ⟨.leaf (.agg [.whole 0 8, .whole 1 8]), 2, []⟩), (83, .one ⟨.leaf (.agg [.whole 0 16, .whole 1 16]), 2, []⟩), (84, oB), (85, oV), (87, oB), (88, oV)], lps := [] }
def t_tpointsF : Tree :=
 .new <|
 .new <|
 .call2 7 [.atom (.var 0)] ([], []) (.tup [.agg [.whole 4 8], .agg [.whole 5 16], .atom (.const (.bool true))]) 2 [] (
 .new <|
 .new <|
 .call 7 [.atom (.var 1)] ([], []) (.tup [.agg [.whole 6 8], .agg [.whole 7 16], .atom (.var 8)]) 3 [] <|
 .new <|
 .new <|
 .calc (.unOp .not 4 (.tmp 36)) 4 [(36, qv 8)] ([], []) (qv 9) 1 <|
 .ite (.var 9) (
 .call2 8 [] ([], []) qT 0 [] (
 .ret ([], []) qT) qF 0 [] <|
 .ret ([], []) qF) <|
 .new <|
 .call 13 [.agg [.whole 4 8], .agg [.whole 6 8]] ([], []) (.tup [.agg [.whole 10 8, .whole 11 8], .atom (.var 12)]) 3 [] <|
 .new <|
 .call2 14 [.agg [.whole 5 16, .whole 7 16]] ([], []) qT 0 [] (
 .calc2 (.binOp .eql 49 (.tmp 79) (.const (.int .i64 0)) 49) 4 [(79, qv 12)] ([], []) qT 0 (
 .call2 15 [.agg [.whole 10 8, .whole 11 8], .agg [.whole 5 16, .whole 7 16]] ([], []) qT 0 [] (
 .call2 8 [] ([], []) qT 0 [] (
 .ret ([], []) qT) qF 0 [] <|
 .ret ([], []) qF) qF 0 [] <|
 .ret ([], []) qF) qF 0 <|
 .ret ([], []) qF) qF 0 [] <|
 .calc2 (.binOp .eql 49 (.tmp 73) (.const (.int .i64 13)) 49) 4 [(73, qv 12)] ([], []) qT 0 (
 .call2 8 [] ([], []) qT 0 [] (
 .ret ([], []) qT) qF 0 [] <|
 .ret ([], []) qF) qF 0 <|
 .ret ([], []) qF) (.tup [.agg [.whole 4 8], .agg [.whole 5 16], .atom (.const (.bool false))]) 2 [] <|
 .new <|
 .new <|
 .call 7 [.atom (.var 1)] ([], []) (.tup [.agg [.whole 6 8], .agg [.whole 7 16], .atom (.var 8)]) 3 [] <|
 .new <|
 .new <|
 .call2 8 [] ([], []) qT 0 [] (
 .ret ([], []) qT) qF 0 [] <|
 .ret ([], []) qF
theorem c_tpointsF : compF Try.prog Try.f3 o_tpointsF (Try.f3.body.getD .skip) (symIn [.agg [.one (.var 0), .one (.var 1)], .agg [.one (.var 2), .one (.var 3)], .atom (.const (.bool false))] Try.f3.ntmps 4) = some t_tpointsF := by kernel_rfl
theorem g_tpointsF : goodC Try.prog o_tpointsF.ords (Try.f3.body.getD .skip) = true := by kernel_rfl
set_option maxRecDepth 100000 in
set_option maxHeartbeats 1000000 in
theorem aw_tpointsF (b1 : List Int) (yb1 : By b1) (c1 : List Int) (yc1 : By c1) (b2 : List Int) (yb2 : By b2) (n2 : Int) (r2 : I64 n2) : AWp Try.prog twS (fun a => a = .bool true) t_tpointsF [] [.isl .u8 b1, .isl .u8 c1, .isl .u8 b2, .int .i64 n2] := by
 by_cases a1 : b1.length = 56
 case neg =>
  repeat ((conv => whnf) <;> first | with_reducible first | refine wI (by omega) ?_ | refine And.intro rfl ?_ | rfl | refine And.intro ‹_› ?_ | refine cTe ‹_› ?_ | refine cFe ‹_› ?_ | refine cN (cTe ‹_› ?_) | refine cN (cFe ‹_› ?_) | refine cTe rfl ?_ | refine cEq ‹_› ?_ | refine cTt ?_ | refine cNt ?_ | refine cF (Eq.refl false) ?_ | refine cN (cF (Eq.refl false) ?_) | refine cTd (by omega) ?_ | refine cFd (by omega) ?_ | refine cN (cTd (by omega) ?_) | refine cN (cFd (by omega) ?_) | refine And.intro (by omega) ?_ | refine And.intro (Eq.refl true) ?_)
  refine ⟨fun _ x y => ?_, fun hh => absurd hh a1⟩
  repeat ((conv => whnf) <;> first | with_reducible first | refine wI (by omega) ?_ | refine And.intro rfl ?_ | rfl | refine And.intro ‹_› ?_ | refine cTe ‹_› ?_ | refine cFe ‹_› ?_ | refine cN (cTe ‹_› ?_) | refine cN (cFe ‹_› ?_) | refine cTe rfl ?_ | refine cEq ‹_› ?_ | refine cTt ?_ | refine cNt ?_ | refine cF (Eq.refl false) ?_ | refine cN (cF (Eq.refl false) ?_) | refine cTd (by omega) ?_ | refine cFd (by omega) ?_ | refine cN (cTd (by omega) ?_) | refine cN (cFd (by omega) ?_) | refine And.intro (by omega) ?_ | refine And.intro (Eq.refl true) ?_)
  refine ⟨fun _ x y => ?_, fun hh => ?_⟩ <;> repeat ((conv => whnf) <;> first | with_reducible first | refine wI (by omega) ?_ | refine And.intro rfl ?_ | rfl | refine And.intro ‹_› ?_ | refine cTe ‹_› ?_ | refine cFe ‹_› ?_ | refine cN (cTe ‹_› ?_) | refine cN (cFe ‹_› ?_) | refine cTe rfl ?_ | refine cEq ‹_› ?_ | refine cTt ?_ | refine cNt ?_ | refine cF (Eq.refl false) ?_ | refine cN (cF (Eq.refl false) ?_) | refine cTd (by omega) ?_ | refine cFd (by omega) ?_ | refine cN (cTd (by omega) ?_) | refine cN (cFd (by omega) ?_) | refine And.intro (by omega) ?_ | refine And.intro (Eq.refl true) ?_)
 by_cases a2 : c1.length = 56
 case neg =>
  repeat ((conv => whnf) <;> first | with_reducible first | refine wI (by omega) ?_ | refine And.intro rfl ?_ | rfl | refine And.intro ‹_› ?_ | refine cTe ‹_› ?_ | refine cFe ‹_› ?_ | refine cN (cTe ‹_› ?_) | refine cN (cFe ‹_› ?_) | refine cTe rfl ?_ | refine cEq ‹_› ?_ | refine cTt ?_ | refine cNt ?_ | refine cF (Eq.refl false) ?_ | refine cN (cF (Eq.refl false) ?_) | refine cTd (by omega) ?_ | refine cFd (by omega) ?_ | refine cN (cTd (by omega) ?_) | refine cN (cFd (by omega) ?_) | refine And.intro (by omega) ?_ | refine And.intro (Eq.refl true) ?_)
  refine fun _ => ?_
  repeat ((conv => whnf) <;> first | with_reducible first | refine wI (by omega) ?_ | refine And.intro rfl ?_ | rfl | refine And.intro ‹_› ?_ | refine cTe ‹_› ?_ | refine cFe ‹_› ?_ | refine cN (cTe ‹_› ?_) | refine cN (cFe ‹_› ?_) | refine cTe rfl ?_ | refine cEq ‹_› ?_ | refine cTt ?_ | refine cNt ?_ | refine cF (Eq.refl false) ?_ | refine cN (cF (Eq.refl false) ?_) | refine cTd (by omega) ?_ | refine cFd (by omega) ?_ | refine cN (cTd (by omega) ?_) | refine cN (cFd (by omega) ?_) | refine And.intro (by omega) ?_ | refine And.intro (Eq.refl true) ?_)
  refine ⟨fun _ x y => ?_, fun hh => absurd hh a2⟩
  repeat ((conv => whnf) <;> first | with_reducible first | refine wI (by omega) ?_ | refine And.intro rfl ?_ | rfl | refine And.intro ‹_› ?_ | refine cTe ‹_› ?_ | refine cFe ‹_› ?_ | refine cN (cTe ‹_› ?_) | refine cN (cFe ‹_› ?_) | refine cTe rfl ?_ | refine cEq ‹_› ?_ | refine cTt ?_ | refine cNt ?_ | refine cF (Eq.refl false) ?_ | refine cN (cF (Eq.refl false) ?_) | refine cTd (by omega) ?_ | refine cFd (by omega) ?_ | refine cN (cTd (by omega) ?_) | refine cN (cFd (by omega) ?_) | refine And.intro (by omega) ?_ | refine And.intro (Eq.refl true) ?_)
 repeat ((conv => whnf) <;> first | with_reducible first | refine wI (by omega) ?_ | refine And.intro rfl ?_ | rfl | refine And.intro ‹_› ?_ | refine cTe ‹_› ?_ | refine cFe ‹_› ?_ | refine cN (cTe ‹_› ?_) | refine cN (cFe ‹_› ?_) | refine cTe rfl ?_ | refine cEq ‹_› ?_ | refine cTt ?_ | refine cNt ?_ | refine cF (Eq.refl false) ?_ | refine cN (cF (Eq.refl false) ?_) | refine cTd (by omega) ?_ | refine cFd (by omega) ?_ | refine cN (cTd (by omega) ?_) | refine cN (cFd (by omega) ?_) | refine And.intro (by omega) ?_ | refine And.intro (Eq.refl true) ?_)
 refine fun _ => ?_
 repeat ((conv => whnf) <;> first | with_reducible first | refine wI (by omega) ?_ | refine And.intro rfl ?_ | rfl | refine And.intro ‹_› ?_ | refine cTe ‹_› ?_ | refine cFe ‹_› ?_ | refine cN (cTe ‹_› ?_) | refine cN (cFe ‹_› ?_) | refine cTe rfl ?_ | refine cEq ‹_› ?_ | refine cTt ?_ | refine cNt ?_ | refine cF (Eq.refl false) ?_ | refine cN (cF (Eq.refl false) ?_) | refine cTd (by omega) ?_ | refine cFd (by omega) ?_ | refine cN (cTd (by omega) ?_) | refine cN (cFd (by omega) ?_) | refine And.intro (by omega) ?_ | refine And.intro (Eq.refl true) ?_)
 refine fun _ => ?_
 generalize zbG b1 = x
 generalize zbG c1 = y
 repeat ((conv => whnf) <;> first | with_reducible first | refine wI (by omega) ?_ | refine And.intro rfl ?_ | rfl | refine And.intro ‹_› ?_ | refine cTe ‹_› ?_ | refine cFe ‹_› ?_ | refine cN (cTe ‹_› ?_) | refine cN (cFe ‹_› ?_) | refine cTe rfl ?_ | refine cEq ‹_› ?_ | refine cTt ?_ | refine cNt ?_ | refine cF (Eq.refl false) ?_ | refine cN (cF (Eq.refl false) ?_) | refine cTd (by omega) ?_ | refine cFd (by omega) ?_ | refine cN (cTd (by omega) ?_) | refine cN (cFd (by omega) ?_) | refine And.intro (by omega) ?_ | refine And.intro (Eq.refl true) ?_)
 by_cases e : onT x y
 ·have f0 : x = x ∧ y = y := ⟨rfl, rfl⟩
  refine ⟨fun _ => ?_, fun hh => absurd e hh⟩
  repeat ((conv => whnf) <;> first | with_reducible first | refine wI (by omega) ?_ | refine And.intro rfl ?_ | rfl | refine And.intro ‹_› ?_ | refine cTe ‹_› ?_ | refine cFe ‹_› ?_ | refine cN (cTe ‹_› ?_) | refine cN (cFe ‹_› ?_) | refine cTe rfl ?_ | refine cEq ‹_› ?_ | refine cTt ?_ | refine cNt ?_ | refine cF (Eq.refl false) ?_ | refine cN (cF (Eq.refl false) ?_) | refine cTd (by omega) ?_ | refine cFd (by omega) ?_ | refine cN (cTd (by omega) ?_) | refine cN (cFd (by omega) ?_) | refine And.intro (by omega) ?_ | refine And.intro (Eq.refl true) ?_)
 ·refine ⟨fun hh => absurd hh e, fun _ => ?_⟩
  repeat ((conv => whnf) <;> first | with_reducible first | refine wI (by omega) ?_ | refine And.intro rfl ?_ | rfl | refine And.intro ‹_› ?_ | refine cTe ‹_› ?_ | refine cFe ‹_› ?_ | refine cN (cTe ‹_› ?_) | refine cN (cFe ‹_› ?_) | refine cTe rfl ?_ | refine cEq ‹_› ?_ | refine cTt ?_ | refine cNt ?_ | refine cF (Eq.refl false) ?_ | refine cN (cF (Eq.refl false) ?_) | refine cTd (by omega) ?_ | refine cFd (by omega) ?_ | refine cN (cTd (by omega) ?_) | refine cN (cFd (by omega) ?_) | refine And.intro (by omega) ?_ | refine And.intro (Eq.refl true) ?_)
set_option maxRecDepth 100000 in
theorem tpointsF_any (b1 : List Int) (yb1 : By b1) (v1 : Value) (c1 : List Int) (yc1 : By c1) (u1 : Value) (b2 : List Int) (yb2 : By b2) (v2 : Value) (n2 : Int) (r2 : I64 n2) (w : World) (s1 : Bv w v1 b1) (z1 : Bv w u1 c1) (s2 : Bv w v2 b2) : Calls Try.prog 3 #[AG [v1, u1], AG [v2, .int .i64 n2], .bool false] w (OutV (.bool true) w) :=
 law_tree twS_ok o_tpointsF [.agg [.one (.var 0), .one (.var 1)], .agg [.one (.var 2), .one (.var 3)], .atom (.const (.bool false))] [v1, u1, v2, .int .i64 n2] [.isl .u8 b1, .isl .u8 c1, .isl .u8 b2, .int .i64 n2] Try.func3 rfl c_tpointsF (by simp [Leaf.den, catS, Seg.den, Atom.den, cellsAt, AG, Value.cells]) (by intro x hx; simp only [List.mem_cons, List.not_mem_nil, or_false] at hx; rcases hx with rfl | rfl | rfl <;> first | exact ok_two (v := v1) (v' := u1) rfl (bv_one s1) rfl (bv_one z1) | exact ok_two (v := v2) (v' := .int .i64 n2) rfl (bv_one s2) rfl rfl | exact ok_const rfl) ⟨_, _, rfl, bv_val s1, _, _, rfl, bv_val z1, ⟨_, _, rfl, bv_val s2, _, _, rfl, int_val n2, rfl⟩⟩ g_tpointsF (aw_tpointsF b1 yb1 c1 yc1 b2 yb2 n2 r2 )
def o_tpointsT : Orc := { ans := [(20, oV), (21, oV), (22, .two ⟨.tup [.agg [.whole 0 8], .agg [.whole 1 16], .atom (.const (.bool true))], 2, []⟩ ⟨.tup [.agg [.whole 0 8], .agg [.whole 1 16], .atom (.const (.bool false))], 2, []⟩), (27, oV), (28, oV), (29, .one ⟨.tup [.agg [.whole 0 8], .agg [.whole 1 16], .atom (.var 2)], 3, []⟩), (34, oV), (37, oV), (38, oV), (39, oB), (40, oA 16), (41, oA 16), (45, .one ⟨.leaf (.agg [.one (.var 0), .one (.var 1)]), 2, []⟩), (46, .one ⟨.tup [.agg [.whole 0 24], .agg [.whole 1 48], .atom (.var 2)], 3, []⟩), (51, oV), (52, oB), (54, oA 24), (55, .one ⟨.leaf (.agg [.whole 0 8, .whole 1 8]), 2, []⟩), (56, .one ⟨.tup [.agg [.whole 0 8], .agg [.whole 1 8]], 2, []⟩), (59, oA 48), (60, .one ⟨.leaf (.agg [.whole 0 16, .whole 1 16]), 2, []⟩), (62, oA 8), (63, oA 8), (64, .one ⟨.tup [.agg [.whole 0 8, .whole 1 8], .atom (.var 2)], 3, []⟩), (67, .one ⟨.leaf (.agg [.whole 0 16, .whole 1 16]), 2, []⟩), (68, oB), (69, oV), (71, oV), (74, oB), (75, oV), (77, oB), (78, oV), (80, oB), (82, .one ⟨.leaf (.agg [.whole 0 8, .whole 1 8]), 2, []⟩), (83, .one ⟨.leaf (.agg [.whole 0 16, .whole 1 16]), 2, []⟩), (84, oB), (85, oV), (87, oB), (88, oV)], lps := [] }
def t_tpointsT : Tree :=
 .new <|
 .new <|
 .call2 7 [.atom (.var 0)] ([], []) (.tup [.agg [.whole 4 8], .agg [.whole 5 16], .atom (.const (.bool true))]) 2 [] (
 .new <|
 .new <|
 .call 7 [.atom (.var 1)] ([], []) (.tup [.agg [.whole 6 8], .agg [.whole 7 16], .atom (.var 8)]) 3 [] <|
 .new <|
 .new <|
 .calc (.unOp .not 4 (.tmp 36)) 4 [(36, qv 8)] ([], []) (qv 9) 1 <|
 .ite (.var 9) (
 .call2 8 [] ([], []) qT 0 [] (
 .ret ([], []) qT) qF 0 [] <|
 .ret ([], []) qF) <|
 .new <|
 .call 9 [.agg [.one (.var 2), .one (.var 3)]] ([], []) (.tup [.agg [.whole 10 24], .agg [.whole 11 48], .atom (.var 12)]) 3 [] <|
 .new <|
 .new <|
 .calc (.unOp .not 4 (.tmp 50)) 4 [(50, qv 12)] ([], []) (qv 13) 1 <|
 .ite (.var 13) (
 .call2 8 [] ([], []) qT 0 [] (
 .ret ([], []) qT) qF 0 [] <|
 .ret ([], []) qF) <|
 .call 11 [.agg [.whole 10 24]] ([], []) (.leaf (.agg [.whole 14 8, .whole 15 8])) 2 [] <|
 .call 10 [.agg [.whole 14 8, .whole 15 8]] ([], []) (.tup [.agg [.whole 16 8], .agg [.whole 17 8]]) 2 [] <|
 .call 12 [.agg [.whole 11 48]] ([], []) (.leaf (.agg [.whole 18 16, .whole 19 16])) 2 [] <|
 .call 13 [.agg [.whole 16 8], .agg [.whole 17 8]] ([], []) (.tup [.agg [.whole 20 8, .whole 21 8], .atom (.var 22)]) 3 [] <|
 .new <|
 .call2 14 [.agg [.whole 18 16, .whole 19 16]] ([], []) qT 0 [] (
 .calc2 (.binOp .eql 49 (.tmp 79) (.const (.int .i64 0)) 49) 4 [(79, qv 22)] ([], []) qT 0 (
 .call2 15 [.agg [.whole 20 8, .whole 21 8], .agg [.whole 18 16, .whole 19 16]] ([], []) qT 0 [] (
 .call2 8 [] ([], []) qT 0 [] (
 .ret ([], []) qT) qF 0 [] <|
 .ret ([], []) qF) qF 0 [] <|
 .ret ([], []) qF) qF 0 <|
 .ret ([], []) qF) qF 0 [] <|
 .ret ([], []) qF) (.tup [.agg [.whole 4 8], .agg [.whole 5 16], .atom (.const (.bool false))]) 2 [] <|
 .new <|
 .new <|
 .call 7 [.atom (.var 1)] ([], []) (.tup [.agg [.whole 6 8], .agg [.whole 7 16], .atom (.var 8)]) 3 [] <|
 .new <|
 .new <|
 .call2 8 [] ([], []) qT 0 [] (
 .ret ([], []) qT) qF 0 [] <|
 .ret ([], []) qF
theorem c_tpointsT : compF Try.prog Try.f3 o_tpointsT (Try.f3.body.getD .skip) (symIn [.agg [.one (.var 0), .one (.var 1)], .agg [.one (.var 2), .one (.var 3)], .atom (.const (.bool true))] Try.f3.ntmps 4) = some t_tpointsT := by kernel_rfl
theorem g_tpointsT : goodC Try.prog o_tpointsT.ords (Try.f3.body.getD .skip) = true := by kernel_rfl
set_option maxRecDepth 100000 in
set_option maxHeartbeats 1000000 in
theorem aw_tpointsT (b1 : List Int) (yb1 : By b1) (c1 : List Int) (yc1 : By c1) (b2 : List Int) (yb2 : By b2) (n2 : Int) (r2 : I64 n2) : AWp Try.prog twS (fun a => a = .bool true) t_tpointsT [] [.isl .u8 b1, .isl .u8 c1, .isl .u8 b2, .int .i64 n2] := by
 by_cases a1 : b1.length = 56
 case neg =>
  repeat ((conv => whnf) <;> first | with_reducible first | refine wI (by omega) ?_ | refine And.intro rfl ?_ | rfl | refine And.intro ‹_› ?_ | refine cTe ‹_› ?_ | refine cFe ‹_› ?_ | refine cN (cTe ‹_› ?_) | refine cN (cFe ‹_› ?_) | refine cTe rfl ?_ | refine cEq ‹_› ?_ | refine cTt ?_ | refine cNt ?_ | refine cF (Eq.refl false) ?_ | refine cN (cF (Eq.refl false) ?_) | refine cTd (by omega) ?_ | refine cFd (by omega) ?_ | refine cN (cTd (by omega) ?_) | refine cN (cFd (by omega) ?_) | refine And.intro (by omega) ?_ | refine And.intro (Eq.refl true) ?_)
  refine ⟨fun _ x y => ?_, fun hh => absurd hh a1⟩
  repeat ((conv => whnf) <;> first | with_reducible first | refine wI (by omega) ?_ | refine And.intro rfl ?_ | rfl | refine And.intro ‹_› ?_ | refine cTe ‹_› ?_ | refine cFe ‹_› ?_ | refine cN (cTe ‹_› ?_) | refine cN (cFe ‹_› ?_) | refine cTe rfl ?_ | refine cEq ‹_› ?_ | refine cTt ?_ | refine cNt ?_ | refine cF (Eq.refl false) ?_ | refine cN (cF (Eq.refl false) ?_) | refine cTd (by omega) ?_ | refine cFd (by omega) ?_ | refine cN (cTd (by omega) ?_) | refine cN (cFd (by omega) ?_) | refine And.intro (by omega) ?_ | refine And.intro (Eq.refl true) ?_)
  refine ⟨fun _ x y => ?_, fun hh => ?_⟩ <;> repeat ((conv => whnf) <;> first | with_reducible first | refine wI (by omega) ?_ | refine And.intro rfl ?_ | rfl | refine And.intro ‹_› ?_ | refine cTe ‹_› ?_ | refine cFe ‹_› ?_ | refine cN (cTe ‹_› ?_) | refine cN (cFe ‹_› ?_) | refine cTe rfl ?_ | refine cEq ‹_› ?_ | refine cTt ?_ | refine cNt ?_ | refine cF (Eq.refl false) ?_ | refine cN (cF (Eq.refl false) ?_) | refine cTd (by omega) ?_ | refine cFd (by omega) ?_ | refine cN (cTd (by omega) ?_) | refine cN (cFd (by omega) ?_) | refine And.intro (by omega) ?_ | refine And.intro (Eq.refl true) ?_)
 by_cases a2 : c1.length = 56
 case neg =>
  repeat ((conv => whnf) <;> first | with_reducible first | refine wI (by omega) ?_ | refine And.intro rfl ?_ | rfl | refine And.intro ‹_› ?_ | refine cTe ‹_› ?_ | refine cFe ‹_› ?_ | refine cN (cTe ‹_› ?_) | refine cN (cFe ‹_› ?_) | refine cTe rfl ?_ | refine cEq ‹_› ?_ | refine cTt ?_ | refine cNt ?_ | refine cF (Eq.refl false) ?_ | refine cN (cF (Eq.refl false) ?_) | refine cTd (by omega) ?_ | refine cFd (by omega) ?_ | refine cN (cTd (by omega) ?_) | refine cN (cFd (by omega) ?_) | refine And.intro (by omega) ?_ | refine And.intro (Eq.refl true) ?_)
  refine fun _ => ?_
  repeat ((conv => whnf) <;> first | with_reducible first | refine wI (by omega) ?_ | refine And.intro rfl ?_ | rfl | refine And.intro ‹_› ?_ | refine cTe ‹_› ?_ | refine cFe ‹_› ?_ | refine cN (cTe ‹_› ?_) | refine cN (cFe ‹_› ?_) | refine cTe rfl ?_ | refine cEq ‹_› ?_ | refine cTt ?_ | refine cNt ?_ | refine cF (Eq.refl false) ?_ | refine cN (cF (Eq.refl false) ?_) | refine cTd (by omega) ?_ | refine cFd (by omega) ?_ | refine cN (cTd (by omega) ?_) | refine cN (cFd (by omega) ?_) | refine And.intro (by omega) ?_ | refine And.intro (Eq.refl true) ?_)
  refine ⟨fun _ x y => ?_, fun hh => absurd hh a2⟩
  repeat ((conv => whnf) <;> first | with_reducible first | refine wI (by omega) ?_ | refine And.intro rfl ?_ | rfl | refine And.intro ‹_› ?_ | refine cTe ‹_› ?_ | refine cFe ‹_› ?_ | refine cN (cTe ‹_› ?_) | refine cN (cFe ‹_› ?_) | refine cTe rfl ?_ | refine cEq ‹_› ?_ | refine cTt ?_ | refine cNt ?_ | refine cF (Eq.refl false) ?_ | refine cN (cF (Eq.refl false) ?_) | refine cTd (by omega) ?_ | refine cFd (by omega) ?_ | refine cN (cTd (by omega) ?_) | refine cN (cFd (by omega) ?_) | refine And.intro (by omega) ?_ | refine And.intro (Eq.refl true) ?_)
 repeat ((conv => whnf) <;> first | with_reducible first | refine wI (by omega) ?_ | refine And.intro rfl ?_ | rfl | refine And.intro ‹_› ?_ | refine cTe ‹_› ?_ | refine cFe ‹_› ?_ | refine cN (cTe ‹_› ?_) | refine cN (cFe ‹_› ?_) | refine cTe rfl ?_ | refine cEq ‹_› ?_ | refine cTt ?_ | refine cNt ?_ | refine cF (Eq.refl false) ?_ | refine cN (cF (Eq.refl false) ?_) | refine cTd (by omega) ?_ | refine cFd (by omega) ?_ | refine cN (cTd (by omega) ?_) | refine cN (cFd (by omega) ?_) | refine And.intro (by omega) ?_ | refine And.intro (Eq.refl true) ?_)
 refine fun _ => ?_
 repeat ((conv => whnf) <;> first | with_reducible first | refine wI (by omega) ?_ | refine And.intro rfl ?_ | rfl | refine And.intro ‹_› ?_ | refine cTe ‹_› ?_ | refine cFe ‹_› ?_ | refine cN (cTe ‹_› ?_) | refine cN (cFe ‹_› ?_) | refine cTe rfl ?_ | refine cEq ‹_› ?_ | refine cTt ?_ | refine cNt ?_ | refine cF (Eq.refl false) ?_ | refine cN (cF (Eq.refl false) ?_) | refine cTd (by omega) ?_ | refine cFd (by omega) ?_ | refine cN (cTd (by omega) ?_) | refine cN (cFd (by omega) ?_) | refine And.intro (by omega) ?_ | refine And.intro (Eq.refl true) ?_)
 refine fun _ => ?_
 generalize zbG b1 = x
 generalize zbG c1 = y
 repeat ((conv => whnf) <;> first | with_reducible first | refine wI (by omega) ?_ | refine And.intro rfl ?_ | rfl | refine And.intro ‹_› ?_ | refine cTe ‹_› ?_ | refine cFe ‹_› ?_ | refine cN (cTe ‹_› ?_) | refine cN (cFe ‹_› ?_) | refine cTe rfl ?_ | refine cEq ‹_› ?_ | refine cTt ?_ | refine cNt ?_ | refine cF (Eq.refl false) ?_ | refine cN (cF (Eq.refl false) ?_) | refine cTd (by omega) ?_ | refine cFd (by omega) ?_ | refine cN (cTd (by omega) ?_) | refine cN (cFd (by omega) ?_) | refine And.intro (by omega) ?_ | refine And.intro (Eq.refl true) ?_)
 refine ⟨fun hh => by repeat ((conv => whnf) <;> first | with_reducible first | refine wI (by omega) ?_ | refine And.intro rfl ?_ | rfl | refine And.intro ‹_› ?_ | refine cTe ‹_› ?_ | refine cFe ‹_› ?_ | refine cN (cTe ‹_› ?_) | refine cN (cFe ‹_› ?_) | refine cTe rfl ?_ | refine cEq ‹_› ?_ | refine cTt ?_ | refine cNt ?_ | refine cF (Eq.refl false) ?_ | refine cN (cF (Eq.refl false) ?_) | refine cTd (by omega) ?_ | refine cFd (by omega) ?_ | refine cN (cTd (by omega) ?_) | refine cN (cFd (by omega) ?_) | refine And.intro (by omega) ?_ | refine And.intro (Eq.refl true) ?_), fun k1 k2 k3 => ?_⟩
 generalize sgG b2 n2 = g
 have e := onT_G g
 have f0 : uT g = uT g ∧ vT g = vT g := ⟨rfl, rfl⟩
 repeat ((conv => whnf) <;> first | with_reducible first | refine wI (by omega) ?_ | refine And.intro rfl ?_ | rfl | refine And.intro ‹_› ?_ | refine cTe ‹_› ?_ | refine cFe ‹_› ?_ | refine cN (cTe ‹_› ?_) | refine cN (cFe ‹_› ?_) | refine cTe rfl ?_ | refine cEq ‹_› ?_ | refine cTt ?_ | refine cNt ?_ | refine cF (Eq.refl false) ?_ | refine cN (cF (Eq.refl false) ?_) | refine cTd (by omega) ?_ | refine cFd (by omega) ?_ | refine cN (cTd (by omega) ?_) | refine cN (cFd (by omega) ?_) | refine And.intro (by omega) ?_ | refine And.intro (Eq.refl true) ?_)
 refine ⟨fun _ => ?_, fun hh => absurd e hh⟩
 repeat ((conv => whnf) <;> first | with_reducible first | refine wI (by omega) ?_ | refine And.intro rfl ?_ | rfl | refine And.intro ‹_› ?_ | refine cTe ‹_› ?_ | refine cFe ‹_› ?_ | refine cN (cTe ‹_› ?_) | refine cN (cFe ‹_› ?_) | refine cTe rfl ?_ | refine cEq ‹_› ?_ | refine cTt ?_ | refine cNt ?_ | refine cF (Eq.refl false) ?_ | refine cN (cF (Eq.refl false) ?_) | refine cTd (by omega) ?_ | refine cFd (by omega) ?_ | refine cN (cTd (by omega) ?_) | refine cN (cFd (by omega) ?_) | refine And.intro (by omega) ?_ | refine And.intro (Eq.refl true) ?_)
set_option maxRecDepth 100000 in
theorem tpointsT_any (b1 : List Int) (yb1 : By b1) (v1 : Value) (c1 : List Int) (yc1 : By c1) (u1 : Value) (b2 : List Int) (yb2 : By b2) (v2 : Value) (n2 : Int) (r2 : I64 n2) (w : World) (s1 : Bv w v1 b1) (z1 : Bv w u1 c1) (s2 : Bv w v2 b2) : Calls Try.prog 3 #[AG [v1, u1], AG [v2, .int .i64 n2], .bool true] w (OutV (.bool true) w) :=
 law_tree twS_ok o_tpointsT [.agg [.one (.var 0), .one (.var 1)], .agg [.one (.var 2), .one (.var 3)], .atom (.const (.bool true))] [v1, u1, v2, .int .i64 n2] [.isl .u8 b1, .isl .u8 c1, .isl .u8 b2, .int .i64 n2] Try.func3 rfl c_tpointsT (by simp [Leaf.den, catS, Seg.den, Atom.den, cellsAt, AG, Value.cells]) (by intro x hx; simp only [List.mem_cons, List.not_mem_nil, or_false] at hx; rcases hx with rfl | rfl | rfl <;> first | exact ok_two (v := v1) (v' := u1) rfl (bv_one s1) rfl (bv_one z1) | exact ok_two (v := v2) (v' := .int .i64 n2) rfl (bv_one s2) rfl rfl | exact ok_const rfl) ⟨_, _, rfl, bv_val s1, _, _, rfl, bv_val z1, ⟨_, _, rfl, bv_val s2, _, _, rfl, int_val n2, rfl⟩⟩ g_tpointsT (aw_tpointsT b1 yb1 c1 yc1 b2 yb2 n2 r2 )
theorem tpoints_any (b1 : List Int) (yb1 : By b1) (v1 : Value) (c1 : List Int) (yc1 : By c1) (u1 : Value) (b2 : List Int) (yb2 : By b2) (v2 : Value) (n2 : Int) (r2 : I64 n2) (t : Bool) (w : World) (s1 : Bv w v1 b1) (z1 : Bv w u1 c1) (s2 : Bv w v2 b2) :
 Calls Try.prog 3 #[AG [v1, u1], AG [v2, .int .i64 n2], .bool t] w (OutV (.bool true) w) := by
 cases t with
 | false => exact tpointsF_any b1 yb1 v1 c1 yc1 u1 b2 yb2 v2 n2 r2 w s1 z1 s2
 | true => exact tpointsT_any b1 yb1 v1 c1 yc1 u1 b2 yb2 v2 n2 r2 w s1 z1 s2
end Go.Proofs.Ytohebkkiicbdoaa
