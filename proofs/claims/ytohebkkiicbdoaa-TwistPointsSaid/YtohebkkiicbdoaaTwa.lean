/- Chapter 13: the twisted curve -/
import Derived.Test.YtohebkkiicbdoaaTwn
import Derived.Test.YtohebkkiicbdoaaVr
import Derived.Test.YtohebkkiicbdoaaPnw
set_option linter.unusedSimpArgs false
set_option linter.unusedVariables false
namespace Go.Proofs.Ytohebkkiicbdoaa
open Go.RowKit FdP FdP.Ch
@[irreducible] def uT (g : G) : F := tuG g
@[irreducible] def vT (g : G) : F := tvG g
theorem uT_eq (g : G) : uT g = tuG g := by unfold uT; rfl
theorem vT_eq (g : G) : vT g = tvG g := by unfold vT; rfl
def prodL (l : List F) : F := l.foldl (· * ·) (z 1)
theorem prodL_push (l : List F) (i : Nat) (h : i < l.length) : prodL (l.take i) * l.getD i 0 = prodL (l.take (i + 1)) := by
 unfold prodL
 rw [List.take_add_one, List.getElem?_eq_getElem h, List.foldl_append, List.getD_eq_getElem?_getD, List.getElem?_eq_getElem h]; rfl
theorem els_get {l : List F} {k : Nat} (h : k < l.length) : (l.map AV.el).getD (k : Int).toNat .any = .el (l.getD k 0) := by
 rw [List.getD_eq_getElem?_getD, show (k : Int).toNat = k from rfl, List.getElem?_map, List.getD_eq_getElem?_getD, List.getElem?_eq_getElem h]; rfl
theorem zsE {i i' : Int} {x x' : F} (h : i = i') (h' : x = x') : [AV.int .i64 i, .el x] = [.int .i64 i', .el x'] := by rw [h, h']
def tProd : Trans := fun zs Q => match zs with
 | [.sl 8 es] => ∃ l : List F, es = l.map .el ∧ l.length ≤ 100 ∧ Q (.el (prodL l))
 | _ => False
def tOver : Trans := fun zs Q => match zs with
 | [.el a, .el b] => Q (.el (a * inv b))
 | _ => False
def tFour13 : Trans := fun zs Q => match zs with
 | [.el x, .el y, .el s, .el t] => Q (.tup [.el (prodL [z 2, x, y] * inv t), .el (s * inv (z 2 - s))])
 | _ => False
def tTo : Trans := fun zs Q => match zs with
 | [.ob (.pt g)] => Q (.agg [.el (uT g), .el (vT g)])
 | _ => False
def tTEq : Trans := fun zs Q => match zs with
 | [.agg [.el a, .el b], .agg [.el c, .el d]] => Q (.bool (dec (a = c ∧ b = d)))
 | _ => False
def tTId : Trans := fun zs Q => zs = [] ∧ Q (.agg [.el (z 0), .el (z 1)])
def onT (x y : F) : Prop := y * y - x * x = z 1 - x * x * (y * y) * z 39082
def zT : AV := .lit (List.replicate 16 (.int .u64 0))
def tTOf : Trans := fun zs Q => match zs with
 | [.el x, .el y] => (onT x y → Q (.tup [.agg [.el x, .el y], .int .i64 0])) ∧ (¬ onT x y → Q (.tup [zT, .int .i64 13]))
 | _ => False
theorem tq_p (x y : F) : z 1 * z 2 * x * y = 2 * (x * y) := by
 have e1 := z_one
 have e2 : z 2 = 2 := by apply Fin.ext; decide +kernel
 rw [e1, e2]; generalize (2 : F) = t; grind
theorem z2_eq : z 2 = 2 := by apply Fin.ext; decide +kernel
theorem tq_s (a b : F) : a + b = b + a := by grind
theorem prodL3 (a b : F) : prodL [z 2, a, b] = 2 * (a * b) := tq_p a b
theorem to_u (g : G) : prodL [z 2, g.x, g.y] * inv (g.y * g.y - g.x * g.x) = uT g := by rw [uT_eq]; unfold tuG tuF; rw [prodL3]
theorem to_v (g : G) : (g.y * g.y + g.x * g.x) * inv (z 2 - (g.y * g.y + g.x * g.x)) = vT g := by rw [vT_eq]; unfold tvG tvF; rw [z2_eq]
def twA : Tab := tb_int :: tb_mul :: []
theorem twA_ok : twA.OK Try.prog := tab_cons tb_int_ok <| tab_cons tb_mul_ok <| tab_nil _
def o_tprod : Orc := { ans := [(6, oA 8), (8, oV), (10, oB), (11, oV), (12, oA 8), (13, oA 8), (14, oA 8), (15, oA 8), (16, oV), (17, oA 8)], lps := [(0, [.slot 9 [.one], .blk 1 [.agg 8]])] }
def t_tprod : Tree :=
 .new <|
 .call 33 [.atom (.const (.int .i64 1))] ([], []) (.leaf (.agg [.whole 1 8])) 1 [] <|
 .new <|
 .calc (.call { callee := .builtin .len, args := #[.tmp 7], argTypes := #[128] }) 3 [(7, qv 0)] ([], []) (qv 2) 1 <|
 .loop [.atom (.const (.int .i64 0)), .agg [.whole 1 8]] [.one, .agg 8] <|
 .calc2 (.binOp .lss 3 (.tmp 9) (.tmp 8) 3) 0 [(9, qv 3), (8, qv 2)] ([], []) qT 0 (
 .calc (.indexAddr 128 (.tmp 7) (.tmp 9)) 0 [(7, qv 0), (9, qv 3)] ([], []) (qv 5) 1 <|
 .calc (.load 29 (.tmp 11)) 29 [(11, qv 5)] ([], []) (.leaf (.agg [.whole 6 8])) 1 <|
 .new <|
 .call 57 [.agg [.whole 4 8], .agg [.whole 6 8]] ([], []) (.leaf (.agg [.whole 7 8])) 1 [] <|
 .calc (.binOp .add 3 (.tmp 9) (.const (.int .i64 1)) 3) 3 [(9, qv 3)] ([], []) (qv 8) 1 <|
 .again 0 [.atom (.var 8), .agg [.whole 7 8]]) qF 0 <|
 .ret ([], []) (.leaf (.agg [.whole 4 8]))
theorem c_tprod : compF Try.prog Try.f59 o_tprod (Try.f59.body.getD .skip) (symIn [.atom (.var 0)] Try.f59.ntmps 1) = some t_tprod := by kernel_rfl
theorem g_tprod : goodC Try.prog o_tprod.ords (Try.f59.body.getD .skip) = true := by kernel_rfl
def tb_tprod : FuncId × Trans := (59, tProd)
set_option maxRecDepth 100000 in
theorem aw_tprod : ∀ zs Q, tb_tprod.2 zs Q → bindLs 0 [.atom (.var 0)] zs fun ae => bif Nat.beq ae.length 1 then AWp Try.prog twA Q t_tprod [] ae else False := by
 intro zs Q h
 replace h : tProd zs Q := h
 unfold tProd at h
 split at h
 case h_2 => exact h.elim
 rename_i es
 obtain ⟨l, rfl, hl, h⟩ := h
 have i1 : I64 1 := by unfold I64; omega
 have hll : (l.map AV.el).length = l.length := List.length_map _
 repeat ((conv => whnf) <;> first | with_reducible first | refine wI (by omega) ?_ | refine And.intro rfl ?_ | rfl | refine And.intro ‹_› ?_ | refine cTe ‹_› ?_ | refine cFe ‹_› ?_ | refine cN (cTe ‹_› ?_) | refine cN (cFe ‹_› ?_) | refine cTe rfl ?_ | refine cEq ‹_› ?_ | refine cTt ?_ | refine cNt ?_ | refine cF (Eq.refl false) ?_ | refine cN (cF (Eq.refl false) ?_) | refine cTd (by omega) ?_ | refine cFd (by omega) ?_ | refine cN (cTd (by omega) ?_) | refine cN (cFd (by omega) ?_) | refine And.intro (by omega) ?_ | refine And.intro (Eq.refl true) ?_)
 refine ⟨Nat, fun i zs => i ≤ l.length ∧ zs = [.int .i64 (i : Int), .el (prodL (l.take i))], fun i => l.length - i, 0, ?_, ?_⟩
 ·(conv => whnf)
  exact ⟨_, Subs.refl' _, Nat.zero_le _, rfl⟩
 rintro i _ ⟨hi, rfl⟩
 by_cases hlt : (i : Int) < l.length
 ·have hg : (l.map AV.el).getD (i : Int).toNat .any = .el (l.getD i 0) := els_get (by omega)
  have hp := prodL_push l i (by omega)
  generalize prodL (l.take i) = p at *
  generalize l.getD i 0 = x at *
  repeat ((conv => whnf) <;> first | with_reducible first | refine wI (by omega) ?_ | refine And.intro rfl ?_ | rfl | refine And.intro ‹_› ?_ | refine cTe ‹_› ?_ | refine cFe ‹_› ?_ | refine cN (cTe ‹_› ?_) | refine cN (cFe ‹_› ?_) | refine cTe rfl ?_ | refine cEq ‹_› ?_ | refine cTt ?_ | refine cNt ?_ | refine cF (Eq.refl false) ?_ | refine cN (cF (Eq.refl false) ?_) | refine cTd (by omega) ?_ | refine cFd (by omega) ?_ | refine cN (cTd (by omega) ?_) | refine cN (cFd (by omega) ?_) | refine And.intro (by omega) ?_ | refine And.intro (Eq.refl true) ?_)
  refine ⟨.el x, hg, ?_⟩
  repeat ((conv => whnf) <;> first | with_reducible first | refine wI (by omega) ?_ | refine And.intro rfl ?_ | rfl | refine And.intro ‹_› ?_ | refine cTe ‹_› ?_ | refine cFe ‹_› ?_ | refine cN (cTe ‹_› ?_) | refine cN (cFe ‹_› ?_) | refine cTe rfl ?_ | refine cEq ‹_› ?_ | refine cTt ?_ | refine cNt ?_ | refine cF (Eq.refl false) ?_ | refine cN (cF (Eq.refl false) ?_) | refine cTd (by omega) ?_ | refine cFd (by omega) ?_ | refine cN (cTd (by omega) ?_) | refine cN (cFd (by omega) ?_) | refine And.intro (by omega) ?_ | refine And.intro (Eq.refl true) ?_)
  (conv => whnf)
  exact ⟨_, Subs.refl' _, i + 1, ⟨by omega, zsE (by omega) hp⟩, by show l.length - (i + 1) < l.length - i; omega⟩
 ·obtain rfl : i = l.length := by omega
  rw [List.take_length]
  repeat ((conv => whnf) <;> first | with_reducible first | refine wI (by omega) ?_ | refine And.intro rfl ?_ | rfl | refine And.intro ‹_› ?_ | refine cTe ‹_› ?_ | refine cFe ‹_› ?_ | refine cN (cTe ‹_› ?_) | refine cN (cFe ‹_› ?_) | refine cTe rfl ?_ | refine cEq ‹_› ?_ | refine cTt ?_ | refine cNt ?_ | refine cF (Eq.refl false) ?_ | refine cN (cF (Eq.refl false) ?_) | refine cTd (by omega) ?_ | refine cFd (by omega) ?_ | refine cN (cTd (by omega) ?_) | refine cN (cFd (by omega) ?_) | refine And.intro (by omega) ?_ | refine And.intro (Eq.refl true) ?_)
  (conv => whnf)
  exact h
theorem tb_tprod_ok : Con Try.prog tb_tprod.1 tb_tprod.2 := con_tree twA_ok o_tprod [.atom (.var 0)] 1 Try.func59 rfl c_tprod aw_tprod g_tprod
def twB : Tab := tb_inverse :: tb_mul :: []
theorem twB_ok : twB.OK Try.prog := tab_cons tb_inverse_ok <| tab_cons tb_mul_ok <| tab_nil _
def o_tover : Orc := { ans := [(5, oA 8), (6, oA 8), (7, oA 8), (8, oA 8)], lps := [], ords := [(1, [.quiet 0, .quiet 1, .call 2 [], .call 3 [], .last 4])] }
def t_tover : Tree :=
 .new <|
 .new <|
 .new <|
 .call 65 [.agg [.whole 1 8]] ([], []) (.leaf (.agg [.whole 2 8])) 1 [] <|
 .call 57 [.agg [.whole 0 8], .agg [.whole 2 8]] ([], []) (.leaf (.agg [.whole 3 8])) 1 [] <|
 .ret ([], []) (.leaf (.agg [.whole 3 8]))
theorem c_tover : compF Try.prog Try.f61 o_tover (Try.f61.body.getD .skip) (symIn [.agg [.whole 0 8], .agg [.whole 1 8]] Try.f61.ntmps 2) = some t_tover := by kernel_rfl
theorem g_tover : goodC Try.prog o_tover.ords (Try.f61.body.getD .skip) = true := by kernel_rfl
def tb_tover : FuncId × Trans := (61, tOver)
set_option maxRecDepth 100000 in
theorem aw_tover : ∀ zs Q, tb_tover.2 zs Q → bindLs 0 [.agg [.whole 0 8], .agg [.whole 1 8]] zs fun ae => bif Nat.beq ae.length 2 then AWp Try.prog twB Q t_tover [] ae else False := by
 intro zs Q h
 replace h : tOver zs Q := h
 unfold tOver at h
 split at h
 case h_2 => exact h.elim
 repeat ((conv => whnf) <;> first | with_reducible first | refine wI (by omega) ?_ | refine And.intro rfl ?_ | rfl | refine And.intro ‹_› ?_ | refine cTe ‹_› ?_ | refine cFe ‹_› ?_ | refine cN (cTe ‹_› ?_) | refine cN (cFe ‹_› ?_) | refine cTe rfl ?_ | refine cEq ‹_› ?_ | refine cTt ?_ | refine cNt ?_ | refine cF (Eq.refl false) ?_ | refine cN (cF (Eq.refl false) ?_) | refine cTd (by omega) ?_ | refine cFd (by omega) ?_ | refine cN (cTd (by omega) ?_) | refine cN (cFd (by omega) ?_) | refine And.intro (by omega) ?_ | refine And.intro (Eq.refl true) ?_)
 (conv => whnf)
 exact h
theorem tb_tover_ok : Con Try.prog tb_tover.1 tb_tover.2 := con_tree twB_ok o_tover [.agg [.whole 0 8], .agg [.whole 1 8]] 2 Try.func61 rfl c_tover aw_tover g_tover
def twD : Tab := tb_int :: tb_sub :: tb_tprod :: tb_tover :: []
theorem twD_ok : twD.OK Try.prog := tab_cons tb_int_ok <| tab_cons tb_sub_ok <| tab_cons tb_tprod_ok <| tab_cons tb_tover_ok <| tab_nil _
def o_tfour : Orc := { ans := [(11, oA 8), (12, oA 8), (13, oA 8), (14, oA 8), (16, oA 8), (17, oA 8), (18, oA 8), (19, oA 8), (20, oA 8), (21, oA 8), (22, oA 8), (23, oA 8)], lps := [], ords := [(2, [.quiet 0, .quiet 1, .quiet 2, .quiet 5, .quiet 7, .quiet 8, .quiet 9, .make 3 [], .call 4 [], .call 6 [], .call 10 [], .call 11 [], .last 12, .last 13])] }
def t_tfour : Tree :=
 .new <|
 .new <|
 .new <|
 .new <|
 .new <|
 .new <|
 .call 33 [.atom (.const (.int .i64 2))] ([], []) (.leaf (.agg [.whole 4 8])) 1 [] <|
 .new <|
 .new <|
 .call 59 [.atom (.slc 7 0 3 3)] ([([.whole 0 8], 29), ([.whole 1 8], 29), ([.whole 2 8], 29), ([.whole 3 8], 29), ([.lit [.int .u64 0, .int .u64 0, .int .u64 0, .int .u64 0, .int .u64 0, .int .u64 0, .int .u64 0, .int .u64 0]], 29), ([.lit [.int .u64 0, .int .u64 0, .int .u64 0, .int .u64 0, .int .u64 0, .int .u64 0, .int .u64 0, .int .u64 0]], 29), ([.whole 4 8], 29), ([.whole 4 8, .whole 0 8, .whole 1 8], 29)], []) (.leaf (.agg [.whole 5 8])) 1 [] <|
 .call 61 [.agg [.whole 5 8], .agg [.whole 3 8]] ([], []) (.leaf (.agg [.whole 6 8])) 1 [] <|
 .call 50 [.agg [.whole 4 8], .agg [.whole 2 8]] ([], []) (.leaf (.agg [.whole 7 8])) 1 [] <|
 .call 61 [.agg [.whole 2 8], .agg [.whole 7 8]] ([], []) (.leaf (.agg [.whole 8 8])) 1 [] <|
 .ret ([], []) (.tup [.agg [.whole 6 8], .agg [.whole 8 8]])
theorem c_tfour : compF Try.prog Try.f48 o_tfour (Try.f48.body.getD .skip) (symIn [.agg [.whole 0 8], .agg [.whole 1 8], .agg [.whole 2 8], .agg [.whole 3 8]] Try.f48.ntmps 4) = some t_tfour := by kernel_rfl
theorem g_tfour : goodC Try.prog o_tfour.ords (Try.f48.body.getD .skip) = true := by kernel_rfl
def tb_tfour : FuncId × Trans := (48, tFour13)
set_option maxRecDepth 100000 in
theorem aw_tfour : ∀ zs Q, tb_tfour.2 zs Q → bindLs 0 [.agg [.whole 0 8], .agg [.whole 1 8], .agg [.whole 2 8], .agg [.whole 3 8]] zs fun ae => bif Nat.beq ae.length 4 then AWp Try.prog twD Q t_tfour [] ae else False := by
 intro zs Q h
 replace h : tFour13 zs Q := h
 unfold tFour13 at h
 split at h
 case h_2 => exact h.elim
 rename_i x y s t
 have i2 : I64 2 := by unfold I64; omega
 repeat ((conv => whnf) <;> first | with_reducible first | refine wI (by omega) ?_ | refine And.intro rfl ?_ | rfl | refine And.intro ‹_› ?_ | refine cTe ‹_› ?_ | refine cFe ‹_› ?_ | refine cN (cTe ‹_› ?_) | refine cN (cFe ‹_› ?_) | refine cTe rfl ?_ | refine cEq ‹_› ?_ | refine cTt ?_ | refine cNt ?_ | refine cF (Eq.refl false) ?_ | refine cN (cF (Eq.refl false) ?_) | refine cTd (by omega) ?_ | refine cFd (by omega) ?_ | refine cN (cTd (by omega) ?_) | refine cN (cFd (by omega) ?_) | refine And.intro (by omega) ?_ | refine And.intro (Eq.refl true) ?_)
 refine ⟨⟨rfl, by show 0 < 8; omega⟩, ?_⟩
 (conv => whnf)
 refine ⟨[z 2, x, y], rfl, by show 3 ≤ 100; omega, ?_⟩
 repeat ((conv => whnf) <;> first | with_reducible first | refine wI (by omega) ?_ | refine And.intro rfl ?_ | rfl | refine And.intro ‹_› ?_ | refine cTe ‹_› ?_ | refine cFe ‹_› ?_ | refine cN (cTe ‹_› ?_) | refine cN (cFe ‹_› ?_) | refine cTe rfl ?_ | refine cEq ‹_› ?_ | refine cTt ?_ | refine cNt ?_ | refine cF (Eq.refl false) ?_ | refine cN (cF (Eq.refl false) ?_) | refine cTd (by omega) ?_ | refine cFd (by omega) ?_ | refine cN (cTd (by omega) ?_) | refine cN (cFd (by omega) ?_) | refine And.intro (by omega) ?_ | refine And.intro (Eq.refl true) ?_)
 (conv => whnf)
 exact h
theorem tb_tfour_ok : Con Try.prog tb_tfour.1 tb_tfour.2 := con_tree twD_ok o_tfour [.agg [.whole 0 8], .agg [.whole 1 8], .agg [.whole 2 8], .agg [.whole 3 8]] 4 Try.func48 rfl c_tfour aw_tfour g_tfour
def twE : Tab := tb_paff :: tb_square :: tb_add :: tb_sub :: tb_tfour :: []
theorem twE_ok : twE.OK Try.prog := tab_cons tb_paff_ok <| tab_cons tb_square_ok <| tab_cons tb_add_ok <| tab_cons tb_sub_ok <| tab_cons tb_tfour_ok <| tab_nil _
def o_tto : Orc := { ans := [(10, oA 24), (11, .one ⟨.tup [.agg [.whole 0 8], .agg [.whole 1 8]], 2, []⟩), (14, oA 8), (15, oA 8), (16, oA 8), (17, oA 8), (19, oA 8), (20, oA 8), (21, oA 8), (22, oA 8), (23, oA 8), (24, oA 8), (25, oA 8), (26, oA 8), (27, .one ⟨.tup [.agg [.whole 0 8], .agg [.whole 1 8]], 2, []⟩), (30, oA 8), (31, oA 8)], lps := [], ords := [(2, [.quiet 0, .quiet 2, .call 1 [4, 5], .call 3 [4, 5], .make 4 [5], .make 5 [], .last 6, .last 7]), (3, [.quiet 0, .quiet 1, .quiet 2, .quiet 3, .quiet 5, .quiet 6, .call 4 [12, 13], .call 7 [12, 13], .call 8 [12, 13], .pure 9, .pure 10, .pure 11, .make 12 [13], .make 13 [], .last 14, .last 15])] }
def t_tto : Tree :=
 .new <|
 .new <|
 .call 24 [.agg [.whole 0 24]] ([], []) (.tup [.agg [.whole 1 8], .agg [.whole 2 8]]) 2 [] <|
 .new <|
 .new <|
 .call 47 [.agg [.whole 1 8]] ([], []) (.leaf (.agg [.whole 3 8])) 1 [] <|
 .call 47 [.agg [.whole 2 8]] ([], []) (.leaf (.agg [.whole 4 8])) 1 [] <|
 .new <|
 .new <|
 .call 49 [.agg [.whole 4 8], .agg [.whole 3 8]] ([], []) (.leaf (.agg [.whole 5 8])) 1 [] <|
 .call 50 [.agg [.whole 4 8], .agg [.whole 3 8]] ([], []) (.leaf (.agg [.whole 6 8])) 1 [] <|
 .call 48 [.agg [.whole 1 8], .agg [.whole 2 8], .agg [.whole 5 8], .agg [.whole 6 8]] ([], []) (.tup [.agg [.whole 7 8], .agg [.whole 8 8]]) 2 [] <|
 .new <|
 .new <|
 .ret ([], []) (.leaf (.agg [.whole 7 8, .whole 8 8]))
theorem c_tto : compF Try.prog Try.f11 o_tto (Try.f11.body.getD .skip) (symIn [.agg [.whole 0 24]] Try.f11.ntmps 1) = some t_tto := by kernel_rfl
theorem g_tto : goodC Try.prog o_tto.ords (Try.f11.body.getD .skip) = true := by kernel_rfl
def tb_tto : FuncId × Trans := (11, tTo)
set_option maxRecDepth 100000 in
theorem aw_tto : ∀ zs Q, tb_tto.2 zs Q → bindLs 0 [.agg [.whole 0 24]] zs fun ae => bif Nat.beq ae.length 1 then AWp Try.prog twE Q t_tto [] ae else False := by
 intro zs Q h
 replace h : tTo zs Q := h
 unfold tTo at h
 split at h
 case h_2 => exact h.elim
 rename_i g
 rw [← to_u g, ← to_v g] at h
 repeat ((conv => whnf) <;> first | with_reducible first | refine wI (by omega) ?_ | refine And.intro rfl ?_ | rfl | refine And.intro ‹_› ?_ | refine cTe ‹_› ?_ | refine cFe ‹_› ?_ | refine cN (cTe ‹_› ?_) | refine cN (cFe ‹_› ?_) | refine cTe rfl ?_ | refine cEq ‹_› ?_ | refine cTt ?_ | refine cNt ?_ | refine cF (Eq.refl false) ?_ | refine cN (cF (Eq.refl false) ?_) | refine cTd (by omega) ?_ | refine cFd (by omega) ?_ | refine cN (cTd (by omega) ?_) | refine cN (cFd (by omega) ?_) | refine And.intro (by omega) ?_ | refine And.intro (Eq.refl true) ?_)
 (conv => whnf)
 exact h
theorem tb_tto_ok : Con Try.prog tb_tto.1 tb_tto.2 := con_tree twE_ok o_tto [.agg [.whole 0 24]] 1 Try.func11 rfl c_tto aw_tto g_tto
def twJ : Tab := tb_equal :: []
theorem twJ_ok : twJ.OK Try.prog := tab_cons tb_equal_ok <| tab_nil _
def o_teq : Orc := { ans := [(5, oV), (6, oA 8), (7, oV), (8, oA 8), (9, oB), (11, oV), (12, oA 8), (13, oV), (14, oA 8), (15, oB), (16, oV)], lps := [] }
def t_teq : Tree :=
 .new <|
 .new <|
 .call2 58 [.agg [.whole 0 8], .agg [.whole 2 8]] ([], []) qT 0 [] (
 .call2 58 [.agg [.whole 1 8], .agg [.whole 3 8]] ([], []) qT 0 [] (
 .ret ([], []) qT) qF 0 [] <|
 .ret ([], []) qF) qF 0 [] <|
 .ret ([], []) qF
theorem c_teq : compF Try.prog Try.f27 o_teq (Try.f27.body.getD .skip) (symIn [.agg [.whole 0 8, .whole 1 8], .agg [.whole 2 8, .whole 3 8]] Try.f27.ntmps 4) = some t_teq := by kernel_rfl
theorem g_teq : goodC Try.prog o_teq.ords (Try.f27.body.getD .skip) = true := by kernel_rfl
def tb_teq : FuncId × Trans := (27, tTEq)
set_option maxRecDepth 100000 in
theorem aw_teq : ∀ zs Q, tb_teq.2 zs Q → bindLs 0 [.agg [.whole 0 8, .whole 1 8], .agg [.whole 2 8, .whole 3 8]] zs fun ae => bif Nat.beq ae.length 4 then AWp Try.prog twJ Q t_teq [] ae else False := by
 intro zs Q h
 replace h : tTEq zs Q := h
 unfold tTEq at h
 split at h
 case h_2 => exact h.elim
 rename_i a b c d
 by_cases e1 : a = c
 ·by_cases e2 : b = d
  ·rw [dec_true ⟨e1, e2⟩] at h
   repeat ((conv => whnf) <;> first | with_reducible first | refine wI (by omega) ?_ | refine And.intro rfl ?_ | rfl | refine And.intro ‹_› ?_ | refine cTe ‹_› ?_ | refine cFe ‹_› ?_ | refine cN (cTe ‹_› ?_) | refine cN (cFe ‹_› ?_) | refine cTe rfl ?_ | refine cEq ‹_› ?_ | refine cTt ?_ | refine cNt ?_ | refine cF (Eq.refl false) ?_ | refine cN (cF (Eq.refl false) ?_) | refine cTd (by omega) ?_ | refine cFd (by omega) ?_ | refine cN (cTd (by omega) ?_) | refine cN (cFd (by omega) ?_) | refine And.intro (by omega) ?_ | refine And.intro (Eq.refl true) ?_)
   (conv => whnf)
   exact h
  ·rw [dec_false (fun g => e2 g.2)] at h
   repeat ((conv => whnf) <;> first | with_reducible first | refine wI (by omega) ?_ | refine And.intro rfl ?_ | rfl | refine And.intro ‹_› ?_ | refine cTe ‹_› ?_ | refine cFe ‹_› ?_ | refine cN (cTe ‹_› ?_) | refine cN (cFe ‹_› ?_) | refine cTe rfl ?_ | refine cEq ‹_› ?_ | refine cTt ?_ | refine cNt ?_ | refine cF (Eq.refl false) ?_ | refine cN (cF (Eq.refl false) ?_) | refine cTd (by omega) ?_ | refine cFd (by omega) ?_ | refine cN (cTd (by omega) ?_) | refine cN (cFd (by omega) ?_) | refine And.intro (by omega) ?_ | refine And.intro (Eq.refl true) ?_)
   (conv => whnf)
   exact h
 ·rw [dec_false (fun g => e1 g.1)] at h
  repeat ((conv => whnf) <;> first | with_reducible first | refine wI (by omega) ?_ | refine And.intro rfl ?_ | rfl | refine And.intro ‹_› ?_ | refine cTe ‹_› ?_ | refine cFe ‹_› ?_ | refine cN (cTe ‹_› ?_) | refine cN (cFe ‹_› ?_) | refine cTe rfl ?_ | refine cEq ‹_› ?_ | refine cTt ?_ | refine cNt ?_ | refine cF (Eq.refl false) ?_ | refine cN (cF (Eq.refl false) ?_) | refine cTd (by omega) ?_ | refine cFd (by omega) ?_ | refine cN (cTd (by omega) ?_) | refine cN (cFd (by omega) ?_) | refine And.intro (by omega) ?_ | refine And.intro (Eq.refl true) ?_)
  (conv => whnf)
  exact h
theorem tb_teq_ok : Con Try.prog tb_teq.1 tb_teq.2 := con_tree twJ_ok o_teq [.agg [.whole 0 8, .whole 1 8], .agg [.whole 2 8, .whole 3 8]] 4 Try.func27 rfl c_teq aw_teq g_teq
def twK : Tab := tb_int :: []
theorem twK_ok : twK.OK Try.prog := tab_cons tb_int_ok <| tab_nil _
def o_tid : Orc := { ans := [(1, oA 8), (2, oA 8)], lps := [] }
def t_tid : Tree :=
 .new <|
 .call 33 [.atom (.const (.int .i64 0))] ([], []) (.leaf (.agg [.whole 0 8])) 1 [] <|
 .call 33 [.atom (.const (.int .i64 1))] ([], []) (.leaf (.agg [.whole 1 8])) 1 [] <|
 .ret ([], []) (.leaf (.agg [.whole 0 8, .whole 1 8]))
theorem c_tid : compF Try.prog Try.f30 o_tid (Try.f30.body.getD .skip) (symIn [] Try.f30.ntmps 0) = some t_tid := by kernel_rfl
theorem g_tid : goodC Try.prog o_tid.ords (Try.f30.body.getD .skip) = true := by kernel_rfl
def tb_tid : FuncId × Trans := (30, tTId)
set_option maxRecDepth 100000 in
theorem aw_tid : ∀ zs Q, tb_tid.2 zs Q → bindLs 0 [] zs fun ae => bif Nat.beq ae.length 0 then AWp Try.prog twK Q t_tid [] ae else False := by
 intro zs Q h
 obtain ⟨rfl, h⟩ := h
 have i1 : I64 1 := by unfold I64; omega
 have i0 : I64 0 := by unfold I64; omega
 repeat ((conv => whnf) <;> first | with_reducible first | refine wI (by omega) ?_ | refine And.intro rfl ?_ | rfl | refine And.intro ‹_› ?_ | refine cTe ‹_› ?_ | refine cFe ‹_› ?_ | refine cN (cTe ‹_› ?_) | refine cN (cFe ‹_› ?_) | refine cTe rfl ?_ | refine cEq ‹_› ?_ | refine cTt ?_ | refine cNt ?_ | refine cF (Eq.refl false) ?_ | refine cN (cF (Eq.refl false) ?_) | refine cTd (by omega) ?_ | refine cFd (by omega) ?_ | refine cN (cTd (by omega) ?_) | refine cN (cFd (by omega) ?_) | refine And.intro (by omega) ?_ | refine And.intro (Eq.refl true) ?_)
 (conv => whnf)
 exact h
theorem tb_tid_ok : Con Try.prog tb_tid.1 tb_tid.2 := con_tree twK_ok o_tid [] 0 Try.func30 rfl c_tid aw_tid g_tid
def twL : Tab := tb_square :: tb_sub :: tb_int :: tb_mul :: tb_times :: tb_equal :: []
theorem twL_ok : twL.OK Try.prog := tab_cons tb_square_ok <| tab_cons tb_sub_ok <| tab_cons tb_int_ok <| tab_cons tb_mul_ok <| tab_cons tb_times_ok <| tab_cons tb_equal_ok <| tab_nil _
def o_tof13 : Orc := { ans := [(10, oA 8), (11, oA 8), (12, oA 8), (13, oA 8), (14, oA 8), (15, oA 8), (16, oA 8), (17, oA 8), (18, oA 8), (19, oA 8), (20, oA 8), (21, oA 8), (22, oA 8), (23, oA 8), (24, oA 8), (25, oB), (26, oV), (28, oA 8), (29, oA 8)], lps := [], ords := [(1, [.quiet 0, .quiet 2, .call 1 [4, 5], .call 3 [4, 5], .make 4 [5], .make 5 [], .last 6, .last 7]), (3, [.quiet 1, .quiet 2, .call 0 [6], .call 3 [6], .call 4 [6], .call 5 [6], .make 6 [], .last 7])] }
def t_tof13 : Tree :=
 .new <|
 .new <|
 .new <|
 .call 47 [.agg [.whole 0 8]] ([], []) (.leaf (.agg [.whole 2 8])) 1 [] <|
 .call 47 [.agg [.whole 1 8]] ([], []) (.leaf (.agg [.whole 3 8])) 1 [] <|
 .new <|
 .new <|
 .call 50 [.agg [.whole 3 8], .agg [.whole 2 8]] ([], []) (.leaf (.agg [.whole 4 8])) 1 [] <|
 .new <|
 .call 33 [.atom (.const (.int .i64 1))] ([], []) (.leaf (.agg [.whole 5 8])) 1 [] <|
 .call 57 [.agg [.whole 2 8], .agg [.whole 3 8]] ([], []) (.leaf (.agg [.whole 6 8])) 1 [] <|
 .call 56 [.agg [.whole 6 8], .atom (.const (.int .i64 39082))] ([], []) (.leaf (.agg [.whole 7 8])) 1 [] <|
 .call 50 [.agg [.whole 5 8], .agg [.whole 7 8]] ([], []) (.leaf (.agg [.whole 8 8])) 1 [] <|
 .new <|
 .call2 58 [.agg [.whole 4 8], .agg [.whole 8 8]] ([], []) qT 0 [] (
 .ret ([], []) (.tup [.agg [.whole 0 8, .whole 1 8], .atom (.const (.int .i64 0))])) qF 0 [] <|
 .ret ([], []) (.tup [.agg [.lit [.int .u64 0, .int .u64 0, .int .u64 0, .int .u64 0, .int .u64 0, .int .u64 0, .int .u64 0, .int .u64 0, .int .u64 0, .int .u64 0, .int .u64 0, .int .u64 0, .int .u64 0, .int .u64 0, .int .u64 0, .int .u64 0]], .atom (.const (.int .i64 13))])
theorem c_tof13 : compF Try.prog Try.f13 o_tof13 (Try.f13.body.getD .skip) (symIn [.agg [.whole 0 8], .agg [.whole 1 8]] Try.f13.ntmps 2) = some t_tof13 := by kernel_rfl
theorem g_tof13 : goodC Try.prog o_tof13.ords (Try.f13.body.getD .skip) = true := by kernel_rfl
def tb_tof13 : FuncId × Trans := (13, tTOf)
set_option maxRecDepth 100000 in
theorem aw_tof13 : ∀ zs Q, tb_tof13.2 zs Q → bindLs 0 [.agg [.whole 0 8], .agg [.whole 1 8]] zs fun ae => bif Nat.beq ae.length 2 then AWp Try.prog twL Q t_tof13 [] ae else False := by
 intro zs Q h
 replace h : tTOf zs Q := h
 unfold tTOf at h
 split at h
 case h_2 => exact h.elim
 rename_i x y
 obtain ⟨h1, h2⟩ := h
 have i1 : I64 1 := by unfold I64; omega
 have i2 : I64 39082 := by unfold I64; omega
 by_cases e : onT x y
 ·have h := h1 e
  unfold onT at e
  repeat ((conv => whnf) <;> first | with_reducible first | refine wI (by omega) ?_ | refine And.intro rfl ?_ | rfl | refine And.intro ‹_› ?_ | refine cTe ‹_› ?_ | refine cFe ‹_› ?_ | refine cN (cTe ‹_› ?_) | refine cN (cFe ‹_› ?_) | refine cTe rfl ?_ | refine cEq ‹_› ?_ | refine cTt ?_ | refine cNt ?_ | refine cF (Eq.refl false) ?_ | refine cN (cF (Eq.refl false) ?_) | refine cTd (by omega) ?_ | refine cFd (by omega) ?_ | refine cN (cTd (by omega) ?_) | refine cN (cFd (by omega) ?_) | refine And.intro (by omega) ?_ | refine And.intro (Eq.refl true) ?_)
  (conv => whnf)
  exact h
 ·have h := h2 e
  unfold onT at e
  repeat ((conv => whnf) <;> first | with_reducible first | refine wI (by omega) ?_ | refine And.intro rfl ?_ | rfl | refine And.intro ‹_› ?_ | refine cTe ‹_› ?_ | refine cFe ‹_› ?_ | refine cN (cTe ‹_› ?_) | refine cN (cFe ‹_› ?_) | refine cTe rfl ?_ | refine cEq ‹_› ?_ | refine cTt ?_ | refine cNt ?_ | refine cF (Eq.refl false) ?_ | refine cN (cF (Eq.refl false) ?_) | refine cTd (by omega) ?_ | refine cFd (by omega) ?_ | refine cN (cTd (by omega) ?_) | refine cN (cFd (by omega) ?_) | refine And.intro (by omega) ?_ | refine And.intro (Eq.refl true) ?_)
  (conv => whnf)
  exact h
theorem tb_tof13_ok : Con Try.prog tb_tof13.1 tb_tof13.2 := con_tree twL_ok o_tof13 [.agg [.whole 0 8], .agg [.whole 1 8]] 2 Try.func13 rfl c_tof13 aw_tof13 g_tof13
end Go.Proofs.Ytohebkkiicbdoaa
