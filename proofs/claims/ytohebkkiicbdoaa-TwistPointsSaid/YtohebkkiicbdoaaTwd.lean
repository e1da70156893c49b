/- Chapter 13: the document's twisted curve -/
import Derived.Test.YtohebkkiicbdoaaTwc
import Derived.Test.YtohebkkiicbdoaaRfe
import Derived.Test.YtohebkkiicbdoaaRpt
set_option linter.unusedSimpArgs false
set_option linter.unusedVariables false
namespace Go.Proofs.Ytohebkkiicbdoaa
open Go.RowKit FdP FdP.Ch
def tROver : Trans := fun zs Q => match zs with
 | [.fg a, .fg b] => Q (.fg (a * inv b))
 | _ => False
def tRTo : Trans := fun zs Q => match zs with
 | [.ob (.fpt g)] => Q (.agg [.fg (uT g), .fg (vT g)])
 | _ => False
def tROnT : Trans := fun zs Q => match zs with
 | [.agg [.fg x, .fg y]] => Q (.bool (dec (onT x y)))
 | _ => False
def tSame13 : Trans := fun zs Q => match zs with
 | [.el a, .fg b] => Q (.bool (dec (a = b)))
 | _ => False
def tSameT : Trans := fun zs Q => match zs with
 | [.agg [.el a, .el b], .agg [.fg c, .fg d]] => Q (.bool (dec (a = c ∧ b = d)))
 | _ => False
theorem r_u (g : G) : z 2 * (g.x * g.y) * inv (g.y * g.y - g.x * g.x) = uT g := by rw [uT_eq, z2_eq]; rfl
theorem r_v (g : G) : (g.x * g.x + g.y * g.y) * inv (z 2 - (g.x * g.x + g.y * g.y)) = vT g := by
 rw [vT_eq, z2_eq]; unfold tvG tvF; rw [tq_s (g.x * g.x) (g.y * g.y)]
theorem r_on (x y : F) : (y * y - x * x = z 1 - z 39082 * (x * x * (y * y))) ↔ onT x y := by
 unfold onT
 rw [show x * x * (y * y) * z 39082 = z 39082 * (x * x * (y * y)) by generalize z 39082 = k; grind]
def tdA : Tab := tb_rmul :: tb_rinv :: []
theorem tdA_ok : tdA.OK Try.prog := tab_cons tb_rmul_ok <| tab_cons tb_rinv_ok <| tab_nil _
def o_rover : Orc := { ans := [(5, oA 16), (6, oA 16), (7, oA 16), (8, oA 16)], lps := [], ords := [(1, [.quiet 0, .quiet 1, .call 2 [], .call 3 [], .last 4])] }
def t_rover : Tree :=
 .new <|
 .new <|
 .new <|
 .call 88 [.agg [.whole 1 16]] ([], []) (.leaf (.agg [.whole 2 16])) 1 [] <|
 .call 52 [.agg [.whole 0 16], .agg [.whole 2 16]] ([], []) (.leaf (.agg [.whole 3 16])) 1 [] <|
 .ret ([], []) (.leaf (.agg [.whole 3 16]))
theorem c_rover : compF Try.prog Try.f54 o_rover (Try.f54.body.getD .skip) (symIn [.agg [.whole 0 16], .agg [.whole 1 16]] Try.f54.ntmps 2) = some t_rover := by kernel_rfl
theorem g_rover : goodC Try.prog o_rover.ords (Try.f54.body.getD .skip) = true := by kernel_rfl
def tb_rover : FuncId × Trans := (54, tROver)
set_option maxRecDepth 100000 in
theorem aw_rover : ∀ zs Q, tb_rover.2 zs Q → bindLs 0 [.agg [.whole 0 16], .agg [.whole 1 16]] zs fun ae => bif Nat.beq ae.length 2 then AWp Try.prog tdA Q t_rover [] ae else False := by
 intro zs Q h
 replace h : tROver zs Q := h
 unfold tROver at h
 split at h
 case h_2 => exact h.elim
 repeat ((conv => whnf) <;> first | with_reducible first | refine wI (by omega) ?_ | refine And.intro rfl ?_ | rfl | refine And.intro ‹_› ?_ | refine cTe ‹_› ?_ | refine cFe ‹_› ?_ | refine cN (cTe ‹_› ?_) | refine cN (cFe ‹_› ?_) | refine cTe rfl ?_ | refine cEq ‹_› ?_ | refine cTt ?_ | refine cNt ?_ | refine cF (Eq.refl false) ?_ | refine cN (cF (Eq.refl false) ?_) | refine cTd (by omega) ?_ | refine cFd (by omega) ?_ | refine cN (cTd (by omega) ?_) | refine cN (cFd (by omega) ?_) | refine And.intro (by omega) ?_ | refine And.intro (Eq.refl true) ?_)
 (conv => whnf)
 exact h
theorem tb_rover_ok : Con Try.prog tb_rover.1 tb_rover.2 := con_tree tdA_ok o_rover [.agg [.whole 0 16], .agg [.whole 1 16]] 2 Try.func54 rfl c_rover aw_rover g_rover
def tdB : Tab := tb_rpaff :: tb_rmul :: tb_radd :: tb_rsub :: tb_rint :: tb_rover :: []
theorem tdB_ok : tdB.OK Try.prog := tab_cons tb_rpaff_ok <| tab_cons tb_rmul_ok <| tab_cons tb_radd_ok <| tab_cons tb_rsub_ok <| tab_cons tb_rint_ok <| tab_cons tb_rover_ok <| tab_nil _
def o_rto : Orc := { ans := [(10, oA 48), (11, .one ⟨.tup [.agg [.whole 0 16], .agg [.whole 1 16]], 2, []⟩), (14, oA 16), (15, oA 16), (16, oA 16), (17, oA 16), (18, oA 16), (19, oA 16), (20, oA 16), (21, oA 16), (22, oA 16), (23, oA 16), (24, oA 16), (25, oA 16), (26, oA 16), (27, oA 16), (28, oA 16), (29, oA 16), (30, oA 16), (31, oA 16), (32, oA 16), (33, oA 16), (34, oA 16), (35, oA 16), (36, oA 16), (37, oA 16)], lps := [], ords := [(6, [.quiet 0, .quiet 1, .quiet 2, .quiet 5, .quiet 6, .quiet 9, .quiet 10, .quiet 11, .call 3 [], .call 4 [], .call 7 [], .call 8 [], .call 12 [], .call 13 [], .pure 14, .last 15])] }
def t_rto : Tree :=
 .new <|
 .new <|
 .call 51 [.agg [.whole 0 48]] ([], []) (.tup [.agg [.whole 1 16], .agg [.whole 2 16]]) 2 [] <|
 .new <|
 .new <|
 .call 52 [.agg [.whole 1 16], .agg [.whole 1 16]] ([], []) (.leaf (.agg [.whole 3 16])) 1 [] <|
 .new <|
 .call 52 [.agg [.whole 2 16], .agg [.whole 2 16]] ([], []) (.leaf (.agg [.whole 4 16])) 1 [] <|
 .new <|
 .call 34 [.atom (.const (.int .i64 2))] ([], []) (.leaf (.agg [.whole 5 16])) 1 [] <|
 .new <|
 .call 53 [.agg [.whole 3 16], .agg [.whole 4 16]] ([], []) (.leaf (.agg [.whole 6 16])) 1 [] <|
 .new <|
 .call 52 [.agg [.whole 1 16], .agg [.whole 2 16]] ([], []) (.leaf (.agg [.whole 7 16])) 1 [] <|
 .call 52 [.agg [.whole 5 16], .agg [.whole 7 16]] ([], []) (.leaf (.agg [.whole 8 16])) 1 [] <|
 .call 55 [.agg [.whole 4 16], .agg [.whole 3 16]] ([], []) (.leaf (.agg [.whole 9 16])) 1 [] <|
 .call 54 [.agg [.whole 8 16], .agg [.whole 9 16]] ([], []) (.leaf (.agg [.whole 10 16])) 1 [] <|
 .call 55 [.agg [.whole 5 16], .agg [.whole 6 16]] ([], []) (.leaf (.agg [.whole 11 16])) 1 [] <|
 .call 54 [.agg [.whole 6 16], .agg [.whole 11 16]] ([], []) (.leaf (.agg [.whole 12 16])) 1 [] <|
 .ret ([], []) (.leaf (.agg [.whole 10 16, .whole 12 16]))
theorem c_rto : compF Try.prog Try.f12 o_rto (Try.f12.body.getD .skip) (symIn [.agg [.whole 0 48]] Try.f12.ntmps 1) = some t_rto := by kernel_rfl
theorem g_rto : goodC Try.prog o_rto.ords (Try.f12.body.getD .skip) = true := by kernel_rfl
def tb_rto : FuncId × Trans := (12, tRTo)
set_option maxRecDepth 100000 in
theorem aw_rto : ∀ zs Q, tb_rto.2 zs Q → bindLs 0 [.agg [.whole 0 48]] zs fun ae => bif Nat.beq ae.length 1 then AWp Try.prog tdB Q t_rto [] ae else False := by
 intro zs Q h
 replace h : tRTo zs Q := h
 unfold tRTo at h
 split at h
 case h_2 => exact h.elim
 rename_i g
 rw [← r_u g, ← r_v g] at h
 have i2 : I64 2 := by unfold I64; omega
 repeat ((conv => whnf) <;> first | with_reducible first | refine wI (by omega) ?_ | refine And.intro rfl ?_ | rfl | refine And.intro ‹_› ?_ | refine cTe ‹_› ?_ | refine cFe ‹_› ?_ | refine cN (cTe ‹_› ?_) | refine cN (cFe ‹_› ?_) | refine cTe rfl ?_ | refine cEq ‹_› ?_ | refine cTt ?_ | refine cNt ?_ | refine cF (Eq.refl false) ?_ | refine cN (cF (Eq.refl false) ?_) | refine cTd (by omega) ?_ | refine cFd (by omega) ?_ | refine cN (cTd (by omega) ?_) | refine cN (cFd (by omega) ?_) | refine And.intro (by omega) ?_ | refine And.intro (Eq.refl true) ?_)
 (conv => whnf)
 exact h
theorem tb_rto_ok : Con Try.prog tb_rto.1 tb_rto.2 := con_tree tdB_ok o_rto [.agg [.whole 0 48]] 1 Try.func12 rfl c_rto aw_rto g_rto
def tdD : Tab := tb_rmul :: tb_rsub :: tb_rint :: tb_rsame :: []
theorem tdD_ok : tdD.OK Try.prog := tab_cons tb_rmul_ok <| tab_cons tb_rsub_ok <| tab_cons tb_rint_ok <| tab_cons tb_rsame_ok <| tab_nil _
def o_ront : Orc := { ans := [(6, oV), (7, oA 16), (8, oV), (9, oA 16), (10, oA 16), (11, oV), (12, oA 16), (13, oV), (14, oA 16), (15, oA 16), (16, oA 16), (17, oA 16), (18, oA 16), (19, oA 16), (20, oA 16), (21, oA 16), (22, oA 16), (23, oA 16), (24, oA 16), (25, oA 16), (26, oA 16), (27, oB)], lps := [], ords := [(3, [.quiet 1, .quiet 2, .call 0 [5], .call 3 [5], .call 4 [5], .make 5 [], .last 6]), (4, [.quiet 0, .quiet 1, .quiet 4, .call 2 [], .call 3 [], .call 5 [], .call 6 [], .pure 7])] }
def t_ront : Tree :=
 .new <|
 .call 52 [.agg [.whole 0 16], .agg [.whole 0 16]] ([], []) (.leaf (.agg [.whole 2 16])) 1 [] <|
 .new <|
 .call 52 [.agg [.whole 1 16], .agg [.whole 1 16]] ([], []) (.leaf (.agg [.whole 3 16])) 1 [] <|
 .new <|
 .call 34 [.atom (.const (.int .i64 39082))] ([], []) (.leaf (.agg [.whole 4 16])) 1 [] <|
 .call 52 [.agg [.whole 2 16], .agg [.whole 3 16]] ([], []) (.leaf (.agg [.whole 5 16])) 1 [] <|
 .call 52 [.agg [.whole 4 16], .agg [.whole 5 16]] ([], []) (.leaf (.agg [.whole 6 16])) 1 [] <|
 .new <|
 .call 55 [.agg [.whole 3 16], .agg [.whole 2 16]] ([], []) (.leaf (.agg [.whole 7 16])) 1 [] <|
 .call 34 [.atom (.const (.int .i64 1))] ([], []) (.leaf (.agg [.whole 8 16])) 1 [] <|
 .call 55 [.agg [.whole 8 16], .agg [.whole 6 16]] ([], []) (.leaf (.agg [.whole 9 16])) 1 [] <|
 .call2 25 [.agg [.whole 7 16], .agg [.whole 9 16]] ([], []) qT 0 [] (
 .ret ([], []) qT) qF 0 [] <|
 .ret ([], []) qF
theorem c_ront : compF Try.prog Try.f14 o_ront (Try.f14.body.getD .skip) (symIn [.agg [.whole 0 16, .whole 1 16]] Try.f14.ntmps 2) = some t_ront := by kernel_rfl
theorem g_ront : goodC Try.prog o_ront.ords (Try.f14.body.getD .skip) = true := by kernel_rfl
def tb_ront : FuncId × Trans := (14, tROnT)
set_option maxRecDepth 100000 in
theorem aw_ront : ∀ zs Q, tb_ront.2 zs Q → bindLs 0 [.agg [.whole 0 16, .whole 1 16]] zs fun ae => bif Nat.beq ae.length 2 then AWp Try.prog tdD Q t_ront [] ae else False := by
 intro zs Q h
 replace h : tROnT zs Q := h
 unfold tROnT at h
 split at h
 case h_2 => exact h.elim
 rename_i x y
 have i1 : I64 1 := by unfold I64; omega
 have i2 : I64 39082 := by unfold I64; omega
 have hr := r_on x y
 by_cases e : onT x y
 ·rw [dec_true e] at h
  have e' := hr.2 e
  repeat ((conv => whnf) <;> first | with_reducible first | refine wI (by omega) ?_ | refine And.intro rfl ?_ | rfl | refine And.intro ‹_› ?_ | refine cTe ‹_› ?_ | refine cFe ‹_› ?_ | refine cN (cTe ‹_› ?_) | refine cN (cFe ‹_› ?_) | refine cTe rfl ?_ | refine cEq ‹_› ?_ | refine cTt ?_ | refine cNt ?_ | refine cF (Eq.refl false) ?_ | refine cN (cF (Eq.refl false) ?_) | refine cTd (by omega) ?_ | refine cFd (by omega) ?_ | refine cN (cTd (by omega) ?_) | refine cN (cFd (by omega) ?_) | refine And.intro (by omega) ?_ | refine And.intro (Eq.refl true) ?_)
  (conv => whnf)
  exact h
 ·rw [dec_false e] at h
  have e' := fun g => e (hr.1 g)
  repeat ((conv => whnf) <;> first | with_reducible first | refine wI (by omega) ?_ | refine And.intro rfl ?_ | rfl | refine And.intro ‹_› ?_ | refine cTe ‹_› ?_ | refine cFe ‹_› ?_ | refine cN (cTe ‹_› ?_) | refine cN (cFe ‹_› ?_) | refine cTe rfl ?_ | refine cEq ‹_› ?_ | refine cTt ?_ | refine cNt ?_ | refine cF (Eq.refl false) ?_ | refine cN (cF (Eq.refl false) ?_) | refine cTd (by omega) ?_ | refine cFd (by omega) ?_ | refine cN (cTd (by omega) ?_) | refine cN (cFd (by omega) ?_) | refine And.intro (by omega) ?_ | refine And.intro (Eq.refl true) ?_)
  (conv => whnf)
  exact h
theorem tb_ront_ok : Con Try.prog tb_ront.1 tb_ront.2 := con_tree tdD_ok o_ront [.agg [.whole 0 16, .whole 1 16]] 2 Try.func14 rfl c_ront aw_ront g_ront
def tdE : Tab := tb_byI :: tb_rbyI :: tb_bytes11 :: []
theorem tdE_ok : tdE.OK Try.prog := tab_cons tb_byI_ok <| tab_cons tb_rbyI_ok <| tab_cons tb_bytes11_ok <| tab_nil _
def o_same13 : Orc := { ans := [(5, oA 8), (6, oV), (7, oA 16), (8, oV), (9, oB)], lps := [], ords := [(1, [.quiet 0, .quiet 2, .call 1 [], .call 3 [], .call 4 [], .pure 5])] }
def t_same13 : Tree :=
 .new <|
 .new <|
 .call 68 [.agg [.whole 0 8]] ([], []) (qv 2) 1 [] <|
 .call 69 [.agg [.whole 1 16]] ([], []) (qv 3) 1 [] <|
 .call2 67 [.atom (.var 2), .atom (.var 3)] ([], []) qT 0 [] (
 .ret ([], []) qT) qF 0 [] <|
 .ret ([], []) qF
theorem c_same13 : compF Try.prog Try.f26 o_same13 (Try.f26.body.getD .skip) (symIn [.agg [.whole 0 8], .agg [.whole 1 16]] Try.f26.ntmps 2) = some t_same13 := by kernel_rfl
theorem g_same13 : goodC Try.prog o_same13.ords (Try.f26.body.getD .skip) = true := by kernel_rfl
def tb_same13 : FuncId × Trans := (26, tSame13)
set_option maxRecDepth 100000 in
theorem aw_same13 : ∀ zs Q, tb_same13.2 zs Q → bindLs 0 [.agg [.whole 0 8], .agg [.whole 1 16]] zs fun ae => bif Nat.beq ae.length 2 then AWp Try.prog tdE Q t_same13 [] ae else False := by
 intro zs Q h
 replace h : tSame13 zs Q := h
 unfold tSame13 at h
 split at h
 case h_2 => exact h.elim
 rename_i a b
 have l1 := byF_len a
 have l2 := byF_len b
 have m1 : (byF a).length ≤ 100000 ∧ (byF b).length ≤ 100000 := ⟨by omega, by omega⟩
 repeat ((conv => whnf) <;> first | with_reducible first | refine wI (by omega) ?_ | refine And.intro rfl ?_ | rfl | refine And.intro ‹_› ?_ | refine cTe ‹_› ?_ | refine cFe ‹_› ?_ | refine cN (cTe ‹_› ?_) | refine cN (cFe ‹_› ?_) | refine cTe rfl ?_ | refine cEq ‹_› ?_ | refine cTt ?_ | refine cNt ?_ | refine cF (Eq.refl false) ?_ | refine cN (cF (Eq.refl false) ?_) | refine cTd (by omega) ?_ | refine cFd (by omega) ?_ | refine cN (cTd (by omega) ?_) | refine cN (cFd (by omega) ?_) | refine And.intro (by omega) ?_ | refine And.intro (Eq.refl true) ?_)
 refine ⟨fun e => ?_, fun e => ?_⟩
 ·have h : Q (.bool true) := by rw [← dec_true (byF_inj e)]; exact h
  repeat ((conv => whnf) <;> first | with_reducible first | refine wI (by omega) ?_ | refine And.intro rfl ?_ | rfl | refine And.intro ‹_› ?_ | refine cTe ‹_› ?_ | refine cFe ‹_› ?_ | refine cN (cTe ‹_› ?_) | refine cN (cFe ‹_› ?_) | refine cTe rfl ?_ | refine cEq ‹_› ?_ | refine cTt ?_ | refine cNt ?_ | refine cF (Eq.refl false) ?_ | refine cN (cF (Eq.refl false) ?_) | refine cTd (by omega) ?_ | refine cFd (by omega) ?_ | refine cN (cTd (by omega) ?_) | refine cN (cFd (by omega) ?_) | refine And.intro (by omega) ?_ | refine And.intro (Eq.refl true) ?_)
  (conv => whnf)
  exact h
 ·have h : Q (.bool false) := by rw [← dec_false (p := a = b) (fun g => e (by rw [g]))]; exact h
  repeat ((conv => whnf) <;> first | with_reducible first | refine wI (by omega) ?_ | refine And.intro rfl ?_ | rfl | refine And.intro ‹_› ?_ | refine cTe ‹_› ?_ | refine cFe ‹_› ?_ | refine cN (cTe ‹_› ?_) | refine cN (cFe ‹_› ?_) | refine cTe rfl ?_ | refine cEq ‹_› ?_ | refine cTt ?_ | refine cNt ?_ | refine cF (Eq.refl false) ?_ | refine cN (cF (Eq.refl false) ?_) | refine cTd (by omega) ?_ | refine cFd (by omega) ?_ | refine cN (cTd (by omega) ?_) | refine cN (cFd (by omega) ?_) | refine And.intro (by omega) ?_ | refine And.intro (Eq.refl true) ?_)
  (conv => whnf)
  exact h
theorem tb_same13_ok : Con Try.prog tb_same13.1 tb_same13.2 := con_tree tdE_ok o_same13 [.agg [.whole 0 8], .agg [.whole 1 16]] 2 Try.func26 rfl c_same13 aw_same13 g_same13
def tdF : Tab := tb_taff13 :: tb_same13 :: []
theorem tdF_ok : tdF.OK Try.prog := tab_cons tb_taff13_ok <| tab_cons tb_same13_ok <| tab_nil _
def o_samet : Orc := { ans := [(8, .one ⟨.leaf (.agg [.whole 0 8, .whole 1 8]), 2, []⟩), (9, .one ⟨.tup [.agg [.whole 0 8], .agg [.whole 1 8]], 2, []⟩), (12, oA 8), (13, oV), (14, oA 16), (15, oB), (17, oA 8), (18, oV), (19, oA 16), (20, oB), (21, oV)], lps := [] }
def t_samet : Tree :=
 .new <|
 .new <|
 .call 10 [.agg [.whole 0 8, .whole 1 8]] ([], []) (.tup [.agg [.whole 4 8], .agg [.whole 5 8]]) 2 [] <|
 .new <|
 .new <|
 .call2 26 [.agg [.whole 4 8], .agg [.whole 2 16]] ([], []) qT 0 [] (
 .call2 26 [.agg [.whole 5 8], .agg [.whole 3 16]] ([], []) qT 0 [] (
 .ret ([], []) qT) qF 0 [] <|
 .ret ([], []) qF) qF 0 [] <|
 .ret ([], []) qF
theorem c_samet : compF Try.prog Try.f15 o_samet (Try.f15.body.getD .skip) (symIn [.agg [.whole 0 8, .whole 1 8], .agg [.whole 2 16, .whole 3 16]] Try.f15.ntmps 4) = some t_samet := by kernel_rfl
theorem g_samet : goodC Try.prog o_samet.ords (Try.f15.body.getD .skip) = true := by kernel_rfl
def tb_samet : FuncId × Trans := (15, tSameT)
set_option maxRecDepth 100000 in
theorem aw_samet : ∀ zs Q, tb_samet.2 zs Q → bindLs 0 [.agg [.whole 0 8, .whole 1 8], .agg [.whole 2 16, .whole 3 16]] zs fun ae => bif Nat.beq ae.length 4 then AWp Try.prog tdF Q t_samet [] ae else False := by
 intro zs Q h
 replace h : tSameT zs Q := h
 unfold tSameT at h
 split at h
 case h_2 => exact h.elim
 rename_i a b c d
 by_cases e1 : a = c
 ·by_cases e2 : b = d
  ·rw [dec_true ⟨e1, e2⟩] at h
   repeat ((conv => whnf) <;> first | with_reducible first | refine wI (by omega) ?_ | refine And.intro rfl ?_ | rfl | refine And.intro ‹_› ?_ | refine cTe ‹_› ?_ | refine cFe ‹_› ?_ | refine cN (cTe ‹_› ?_) | refine cN (cFe ‹_› ?_) | refine cTe rfl ?_ | refine cEq ‹_› ?_ | refine cTt ?_ | refine cNt ?_ | refine cF (Eq.refl false) ?_ | refine cN (cF (Eq.refl false) ?_) | refine cTd (by omega) ?_ | refine cFd (by omega) ?_ | refine cN (cTd (by omega) ?_) | refine cN (cFd (by omega) ?_) | refine And.intro (by omega) ?_ | refine And.intro (Eq.refl true) ?_)
   (conv => whnf)
   exact h
  ·rw [dec_false (fun g => e2 g.2)] at h
   repeat ((conv => whnf) <;> first | with_reducible first | refine wI (by omega) ?_ | refine And.intro rfl ?_ | rfl | refine And.intro ‹_› ?_ | refine cTe ‹_› ?_ | refine cFe ‹_› ?_ | refine cN (cTe ‹_› ?_) | refine cN (cFe ‹_› ?_) | refine cTe rfl ?_ | refine cEq ‹_› ?_ | refine cTt ?_ | refine cNt ?_ | refine cF (Eq.refl false) ?_ | refine cN (cF (Eq.refl false) ?_) | refine cTd (by omega) ?_ | refine cFd (by omega) ?_ | refine cN (cTd (by omega) ?_) | refine cN (cFd (by omega) ?_) | refine And.intro (by omega) ?_ | refine And.intro (Eq.refl true) ?_)
   (conv => whnf)
   exact h
 ·rw [dec_false (fun g => e1 g.1)] at h
  repeat ((conv => whnf) <;> first | with_reducible first | refine wI (by omega) ?_ | refine And.intro rfl ?_ | rfl | refine And.intro ‹_› ?_ | refine cTe ‹_› ?_ | refine cFe ‹_› ?_ | refine cN (cTe ‹_› ?_) | refine cN (cFe ‹_› ?_) | refine cTe rfl ?_ | refine cEq ‹_› ?_ | refine cTt ?_ | refine cNt ?_ | refine cF (Eq.refl false) ?_ | refine cN (cF (Eq.refl false) ?_) | refine cTd (by omega) ?_ | refine cFd (by omega) ?_ | refine cN (cTd (by omega) ?_) | refine cN (cFd (by omega) ?_) | refine And.intro (by omega) ?_ | refine And.intro (Eq.refl true) ?_)
  (conv => whnf)
  exact h
theorem tb_samet_ok : Con Try.prog tb_samet.1 tb_samet.2 := con_tree tdF_ok o_samet [.agg [.whole 0 8, .whole 1 8], .agg [.whole 2 16, .whole 3 16]] 4 Try.func15 rfl c_samet aw_samet g_samet
end Go.Proofs.Ytohebkkiicbdoaa
