/- Chapter 13: awake, TwistFours -/
import Derived.Test.YtohebkkiicbdoaaTwa
import Derived.Test.YtohebkkiicbdoaaCma
import Derived.Test.YtohebkkiicbdoaaOpc
set_option linter.unusedSimpArgs false
set_option linter.unusedVariables false
namespace Go.Proofs.Ytohebkkiicbdoaa
open Go.RowKit FdP FdP.Ch
theorem two_m1 : (2 : F) - 1 = 1 := by apply Fin.ext; decide +kernel
theorem two_ne : (2 : F) ≠ 0 := fun e => by
 have := congrArg Fin.val e
 rw [show (2 : F).val = 2 by decide +kernel, show (0 : F).val = 0 from rfl] at this
 omega
theorem v_one : (1 : F) * inv (2 - 1) = 1 := by rw [two_m1]; exact mul_inv one_ne
theorem tom (a : F) : 1 * a = a := by grind
theorem tk {a k : F} (h : a - a = a - k) : k = a := by grind
theorem tza (a : F) : 0 + a = a := by grind
theorem t1 : 1 * 1 + 0 * 0 = (1 : F) := by rw [tn_6, tom, ta]
theorem t2 : (0 : F) * 0 + 1 * 1 = 1 := by rw [tn_6, tom, tza]
theorem t3 (a : F) : 2 * (1 * 0) * a = 0 := by rw [tz', tz', tn_6]
theorem t4 (a : F) : 2 * (0 * 1) * a = 0 := by rw [tn_6, tz', tn_6]
theorem uT_10 {q : G} (hx : q.x = 1) (hy : q.y = 0) : uT q = z 0 ∧ vT q = z 1 := by
 rw [uT_eq, vT_eq, z_zero, z_one]; unfold tuG tvG tuF tvF; rw [hx, hy]
 exact ⟨t3 _, by rw [t2]; exact v_one⟩
theorem uT_01 : uT 0 = z 0 ∧ vT 0 = z 1 := by
 rw [uT_eq, vT_eq, z_zero, z_one]; unfold tuG tvG tuF tvF
 rw [show (0 : G).x = 0 from rfl, show (0 : G).y = 1 from rfl]
 exact ⟨t4 _, by rw [t1]; exact v_one⟩
theorem BGx_ne : BG.x ≠ 0 := by
 intro this
 have : (z bxN) = 0 := this
 rw [← z_zero, z_eq] at this
 revert this; decide +kernel
theorem BGy_ne : BG.y ≠ 0 := by
 intro this
 have : (z byN) = 0 := this
 rw [← z_zero, z_eq] at this
 revert this; decide +kernel
theorem uT_BG : uT BG ≠ z 0 := by
 intro e
 rw [uT_eq, z_zero] at e
 have h := tuF_mul BG.on
 have h0 : tuF BG.x BG.y = 0 := e
 rw [h0, tn_6] at h
 exact mul_ne two_ne (mul_ne BGx_ne BGy_ne) h.symm
theorem on_10 : z 1 * z 1 + z 0 * z 0 = 1 + cd * ((z 1 * z 1) * (z 0 * z 0)) := by
 have h := TG.on
 rw [z_one, z_zero]; exact h
theorem off_11 : ¬ onT (z 1) (z 1) := by
 intro e
 unfold onT at e
 rw [z_one] at e
 have h : kd = 1 := by
  have e' : (1 : F) * 1 - 1 * 1 = 1 - 1 * 1 * (1 * 1) * kd := e
  rw [tom, tom, tom] at e'
  exact tk e'
 have := congrArg Fin.val h
 rw [kd_val, show (1 : F).val = 1 by decide +kernel] at this
 omega
def tAw13 : Trans := fun zs Q => zs = [] ∧ Q (.bool true)
def twM : Tab := tb_int :: tb_pof :: tb_tof13 :: tb_tto :: tb_tid :: tb_teq :: tb_pid :: tb_pbase :: []
theorem twM_ok : twM.OK Try.prog := tab_cons tb_int_ok <| tab_cons tb_pof_ok <| tab_cons tb_tof13_ok <| tab_cons tb_tto_ok <| tab_cons tb_tid_ok <| tab_cons tb_teq_ok <| tab_cons tb_pid_ok <| tab_cons tb_pbase_ok <| tab_nil _
def o_awake13 : Orc := { ans := [(7, oA 8), (8, oA 8), (9, .one ⟨.tup [.agg [.whole 0 24], .atom (.var 1)], 2, []⟩), (13, oA 8), (14, oA 8), (15, .one ⟨.tup [.agg [.whole 0 8, .whole 1 8], .atom (.var 2)], 3, []⟩), (18, oA 24), (19, .one ⟨.leaf (.agg [.whole 0 8, .whole 1 8]), 2, []⟩), (21, oB), (23, .one ⟨.leaf (.agg [.whole 0 8, .whole 1 8]), 2, []⟩), (24, .one ⟨.leaf (.agg [.whole 0 8, .whole 1 8]), 2, []⟩), (25, oB), (26, oV), (28, oA 24), (29, .one ⟨.leaf (.agg [.whole 0 8, .whole 1 8]), 2, []⟩), (30, .one ⟨.leaf (.agg [.whole 0 8, .whole 1 8]), 2, []⟩), (31, oB), (32, oV), (34, oA 24), (35, .one ⟨.leaf (.agg [.whole 0 8, .whole 1 8]), 2, []⟩), (36, .one ⟨.leaf (.agg [.whole 0 8, .whole 1 8]), 2, []⟩), (37, oB), (38, oV), (39, oV), (42, oB), (43, oV)], lps := [], ords := [(4, [.pure 0, .quiet 1, .pure 2, .quiet 3, .call 4 [], .call 5 [], .quiet 6, .pure 7, .quiet 10, .call 8 [], .call 9 [], .call 11 [], .quiet 12, .pure 13, .quiet 16, .call 14 [], .call 15 [], .call 17 [], .quiet 18, .quiet 19, .pure 20, .pure 21, .quiet 22, .quiet 23, .pure 24])] }
def t_awake13 : Tree :=
 .call 33 [.atom (.const (.int .i64 1))] ([], []) (.leaf (.agg [.whole 0 8])) 1 [] <|
 .call 33 [.atom (.const (.int .i64 0))] ([], []) (.leaf (.agg [.whole 1 8])) 1 [] <|
 .call 37 [.agg [.whole 0 8], .agg [.whole 1 8]] ([], []) (.tup [.agg [.whole 2 24], .atom (.var 3)]) 2 [] <|
 .new <|
 .call 33 [.atom (.const (.int .i64 1))] ([], []) (.leaf (.agg [.whole 4 8])) 1 [] <|
 .call 33 [.atom (.const (.int .i64 1))] ([], []) (.leaf (.agg [.whole 5 8])) 1 [] <|
 .call 13 [.agg [.whole 4 8], .agg [.whole 5 8]] ([], []) (.tup [.agg [.whole 6 8, .whole 7 8], .atom (.var 8)]) 3 [] <|
 .new <|
 .call 11 [.agg [.whole 2 24]] ([], []) (.leaf (.agg [.whole 9 8, .whole 10 8])) 2 [] <|
 .new <|
 .calc2 (.binOp .eql 49 (.tmp 20) (.const (.int .i64 0)) 49) 4 [(20, qv 3)] ([], []) qT 0 (
 .call 30 [] ([], []) (.leaf (.agg [.whole 11 8, .whole 12 8])) 2 [] <|
 .call2 27 [.agg [.whole 9 8, .whole 10 8], .agg [.whole 11 8, .whole 12 8]] ([], []) qT 0 [] (
 .call 38 [] ([], []) (.leaf (.agg [.whole 13 24])) 1 [] <|
 .call 11 [.agg [.whole 13 24]] ([], []) (.leaf (.agg [.whole 14 8, .whole 15 8])) 2 [] <|
 .call2 27 [.agg [.whole 14 8, .whole 15 8], .agg [.whole 9 8, .whole 10 8]] ([], []) qT 0 [] (
 .call 39 [] ([], []) (.leaf (.agg [.whole 16 24])) 1 [] <|
 .call 11 [.agg [.whole 16 24]] ([], []) (.leaf (.agg [.whole 17 8, .whole 18 8])) 2 [] <|
 .call2 27 [.agg [.whole 17 8, .whole 18 8], .agg [.whole 9 8, .whole 10 8]] ([], []) qT 0 [] (
 .ret ([], []) qF) qF 0 [] <|
 .calc2 (.binOp .eql 49 (.tmp 41) (.const (.int .i64 13)) 49) 4 [(41, qv 8)] ([], []) qT 0 (
 .ret ([], []) qT) qF 0 <|
 .ret ([], []) qF) qF 0 [] <|
 .ret ([], []) qF) qF 0 [] <|
 .ret ([], []) qF) qF 0 <|
 .ret ([], []) qF
theorem c_awake13 : compF Try.prog Try.f8 o_awake13 (Try.f8.body.getD .skip) (symIn [] Try.f8.ntmps 0) = some t_awake13 := by kernel_rfl
theorem g_awake13 : goodC Try.prog o_awake13.ords (Try.f8.body.getD .skip) = true := by kernel_rfl
def tb_awake13 : FuncId × Trans := (8, tAw13)
set_option maxRecDepth 100000 in
theorem aw_awake13 : ∀ zs Q, tb_awake13.2 zs Q → bindLs 0 [] zs fun ae => bif Nat.beq ae.length 0 then AWp Try.prog twM Q t_awake13 [] ae else False := by
 intro zs Q h
 obtain ⟨rfl, h⟩ := h
 have i1 : I64 1 := by unfold I64; omega
 have i0 : I64 0 := by unfold I64; omega
 have n1 := on_10
 have n2 := off_11
 have q0 := uT_10 (q := ofP (z 1) (z 0)) (by rw [(ofP_x on_10).1, z_one]) (by rw [(ofP_x on_10).2, z_zero])
 have q1 : uT 0 = uT (ofP (z 1) (z 0)) ∧ vT 0 = vT (ofP (z 1) (z 0)) := by rw [q0.1, q0.2]; exact uT_01
 have q2 : ¬ (uT BG = uT (ofP (z 1) (z 0)) ∧ vT BG = vT (ofP (z 1) (z 0))) := fun g => uT_BG (by rw [g.1, q0.1])
 repeat ((conv => whnf) <;> first | with_reducible first | refine wI (by omega) ?_ | refine And.intro rfl ?_ | rfl | refine And.intro ‹_› ?_ | refine cTe ‹_› ?_ | refine cFe ‹_› ?_ | refine cN (cTe ‹_› ?_) | refine cN (cFe ‹_› ?_) | refine cTe rfl ?_ | refine cEq ‹_› ?_ | refine cTt ?_ | refine cNt ?_ | refine cF (Eq.refl false) ?_ | refine cN (cF (Eq.refl false) ?_) | refine cTd (by omega) ?_ | refine cFd (by omega) ?_ | refine cN (cTd (by omega) ?_) | refine cN (cFd (by omega) ?_) | refine And.intro (by omega) ?_ | refine And.intro (Eq.refl true) ?_)
 refine ⟨fun g => absurd g off_11, fun _ => ?_⟩
 repeat ((conv => whnf) <;> first | with_reducible first | refine wI (by omega) ?_ | refine And.intro rfl ?_ | rfl | refine And.intro ‹_› ?_ | refine cTe ‹_› ?_ | refine cFe ‹_› ?_ | refine cN (cTe ‹_› ?_) | refine cN (cFe ‹_› ?_) | refine cTe rfl ?_ | refine cEq ‹_› ?_ | refine cTt ?_ | refine cNt ?_ | refine cF (Eq.refl false) ?_ | refine cN (cF (Eq.refl false) ?_) | refine cTd (by omega) ?_ | refine cFd (by omega) ?_ | refine cN (cTd (by omega) ?_) | refine cN (cFd (by omega) ?_) | refine And.intro (by omega) ?_ | refine And.intro (Eq.refl true) ?_)
 (conv => whnf)
 exact h
theorem tb_awake13_ok : Con Try.prog tb_awake13.1 tb_awake13.2 := con_tree twM_ok o_awake13 [] 0 Try.func8 rfl c_awake13 aw_awake13 g_awake13
end Go.Proofs.Ytohebkkiicbdoaa
