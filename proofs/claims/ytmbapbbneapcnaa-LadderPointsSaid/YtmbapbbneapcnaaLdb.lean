/- Chapter 10: the document's ladder -/
import Derived.Test.YtmbapbbneapcnaaLda
import Derived.Test.YtmbapbbneapcnaaNbi
import Derived.Test.YtmbapbbneapcnaaRfe
set_option linter.unusedSimpArgs false
set_option linter.unusedVariables false
namespace Go.Proofs.Ytmbapbbneapcnaa
open Go.RowKit FdP FdP.Ch
theorem mulC10 (a b : F) : a * b = b * a := by grind
def lstepR (u : F) (p : L4) : L4 :=
  ⟨(p.x0 + p.z0) * (p.x0 + p.z0) * ((p.x0 - p.z0) * (p.x0 - p.z0)),
   ((p.x0 + p.z0) * (p.x0 + p.z0) - (p.x0 - p.z0) * (p.x0 - p.z0)) * ((p.x0 + p.z0) * (p.x0 + p.z0) + z 39081 * ((p.x0 + p.z0) * (p.x0 + p.z0) - (p.x0 - p.z0) * (p.x0 - p.z0))),
   ((p.x1 - p.z1) * (p.x0 + p.z0) + (p.x1 + p.z1) * (p.x0 - p.z0)) * ((p.x1 - p.z1) * (p.x0 + p.z0) + (p.x1 + p.z1) * (p.x0 - p.z0)),
   u * (((p.x1 - p.z1) * (p.x0 + p.z0) - (p.x1 + p.z1) * (p.x0 - p.z0)) * ((p.x1 - p.z1) * (p.x0 + p.z0) - (p.x1 + p.z1) * (p.x0 - p.z0)))⟩
theorem lstepR_eq (u : F) (p : L4) : lstep u p = lstepR u p := by unfold lstep lstepR; rw [mulC10 _ (z 39081)]
def tRStep : Trans := fun zs Q => match zs with
  | [.fg u, .agg [.fg x0, .fg z0, .fg x1, .fg z1]] => Q (.agg [.fg (lstep u ⟨x0, z0, x1, z1⟩).x0, .fg (lstep u ⟨x0, z0, x1, z1⟩).z0, .fg (lstep u ⟨x0, z0, x1, z1⟩).x1, .fg (lstep u ⟨x0, z0, x1, z1⟩).z1])
  | _ => False
def tRLad : Trans := fun zs Q => match zs with
  | [.isl .u8 k, .fg u] => (By k ∧ k.length ≤ 100000) ∧ Q (.fg (ladU u (nval k)))
  | _ => False
theorem sub_fg0 : Sub (.lit (List.replicate 16 (.int .i64 0))) (.fg (z 0)) := by
  intro β v hv
  have := fg_inv (a := .lit (List.replicate 16 (.int .i64 0))) (x := 0) rfl hv
  subst this
  rw [z_zero]
  exact valR0.mk (a := .fg 0) rfl rfl
def tjE : Tab := tb_radd :: tb_rsub :: tb_rmul :: tb_rint :: []
theorem tjE_ok : tjE.OK Try.prog := tab_cons tb_radd_ok <| tab_cons tb_rsub_ok <| tab_cons tb_rmul_ok <| tab_cons tb_rint_ok <| tab_nil _
def o_rstep10 : Orc := { ans := [(14, .one ⟨.leaf (.atom (.var 0)), 1, []⟩), (15, .one ⟨.leaf (.agg [.whole 0 16]), 1, []⟩), (16, .one ⟨.leaf (.atom (.var 0)), 1, []⟩), (17, .one ⟨.leaf (.agg [.whole 0 16]), 1, []⟩), (18, .one ⟨.leaf (.agg [.whole 0 16]), 1, []⟩), (19, .one ⟨.leaf (.atom (.var 0)), 1, []⟩), (20, .one ⟨.leaf (.agg [.whole 0 16]), 1, []⟩), (21, .one ⟨.leaf (.atom (.var 0)), 1, []⟩), (22, .one ⟨.leaf (.agg [.whole 0 16]), 1, []⟩), (23, .one ⟨.leaf (.agg [.whole 0 16]), 1, []⟩), (24, .one ⟨.leaf (.atom (.var 0)), 1, []⟩), (25, .one ⟨.leaf (.agg [.whole 0 16]), 1, []⟩), (26, .one ⟨.leaf (.atom (.var 0)), 1, []⟩), (27, .one ⟨.leaf (.agg [.whole 0 16]), 1, []⟩), (28, .one ⟨.leaf (.agg [.whole 0 16]), 1, []⟩), (29, .one ⟨.leaf (.agg [.whole 0 16]), 1, []⟩), (30, .one ⟨.leaf (.agg [.whole 0 16]), 1, []⟩), (31, .one ⟨.leaf (.atom (.var 0)), 1, []⟩), (32, .one ⟨.leaf (.agg [.whole 0 16]), 1, []⟩), (33, .one ⟨.leaf (.atom (.var 0)), 1, []⟩), (34, .one ⟨.leaf (.agg [.whole 0 16]), 1, []⟩), (35, .one ⟨.leaf (.agg [.whole 0 16]), 1, []⟩), (36, .one ⟨.leaf (.agg [.whole 0 16]), 1, []⟩), (37, .one ⟨.leaf (.agg [.whole 0 16]), 1, []⟩), (38, .one ⟨.leaf (.agg [.whole 0 16]), 1, []⟩), (39, .one ⟨.leaf (.agg [.whole 0 16]), 1, []⟩), (40, .one ⟨.leaf (.agg [.whole 0 16]), 1, []⟩), (41, .one ⟨.leaf (.agg [.whole 0 16]), 1, []⟩), (42, .one ⟨.leaf (.agg [.whole 0 16]), 1, []⟩), (43, .one ⟨.leaf (.agg [.whole 0 16]), 1, []⟩), (44, .one ⟨.leaf (.agg [.whole 0 16]), 1, []⟩), (45, .one ⟨.leaf (.agg [.whole 0 16]), 1, []⟩), (46, .one ⟨.leaf (.agg [.whole 0 16]), 1, []⟩), (47, .one ⟨.leaf (.agg [.whole 0 16]), 1, []⟩), (48, .one ⟨.leaf (.agg [.whole 0 16]), 1, []⟩), (49, .one ⟨.leaf (.agg [.whole 0 16]), 1, []⟩), (50, .one ⟨.leaf (.agg [.whole 0 16]), 1, []⟩), (51, .one ⟨.leaf (.agg [.whole 0 16]), 1, []⟩), (52, .one ⟨.leaf (.agg [.whole 0 16]), 1, []⟩), (53, .one ⟨.leaf (.agg [.whole 0 16]), 1, []⟩), (54, .one ⟨.leaf (.agg [.whole 0 16]), 1, []⟩), (55, .one ⟨.leaf (.agg [.whole 0 16]), 1, []⟩), (56, .one ⟨.leaf (.agg [.whole 0 16]), 1, []⟩), (57, .one ⟨.leaf (.agg [.whole 0 16]), 1, []⟩), (58, .one ⟨.leaf (.agg [.whole 0 16]), 1, []⟩), (59, .one ⟨.leaf (.agg [.whole 0 16]), 1, []⟩), (60, .one ⟨.leaf (.agg [.whole 0 16]), 1, []⟩), (61, .one ⟨.leaf (.agg [.whole 0 16]), 1, []⟩), (62, .one ⟨.leaf (.agg [.whole 0 16]), 1, []⟩), (63, .one ⟨.leaf (.agg [.whole 0 16]), 1, []⟩), (64, .one ⟨.leaf (.agg [.whole 0 16]), 1, []⟩), (65, .one ⟨.leaf (.agg [.whole 0 16]), 1, []⟩), (66, .one ⟨.leaf (.agg [.whole 0 16]), 1, []⟩), (67, .one ⟨.leaf (.agg [.whole 0 16]), 1, []⟩), (68, .one ⟨.leaf (.agg [.whole 0 16]), 1, []⟩), (69, .one ⟨.leaf (.agg [.whole 0 16]), 1, []⟩), (70, .one ⟨.leaf (.agg [.whole 0 16]), 1, []⟩)], lps := [], ords := [(3, [.quiet 0, .quiet 1, .quiet 2, .quiet 3, .quiet 5, .call 4 [7], .call 6 [7], .make 7 [], .last 8]), (4, [.quiet 0, .quiet 1, .quiet 2, .quiet 3, .quiet 5, .call 4 [7], .call 6 [7], .make 7 [], .last 8]), (10, [.quiet 0, .quiet 1, .quiet 3, .quiet 4, .quiet 6, .quiet 10, .quiet 11, .quiet 13, .quiet 14, .quiet 15, .call 2 [], .call 5 [], .call 7 [], .call 8 [], .call 9 [], .call 12 [], .call 16 [], .call 17 [], .pure 18, .last 19])] }
def t_rstep10 : Tree :=
  .new <|
  .new <|
  .new <|
  .call 40 [.agg [.whole 1 16], .agg [.whole 2 16]] ([], []) (.leaf (.agg [.whole 5 16])) 1 [] <|
  .new <|
  .call 41 [.agg [.whole 1 16], .agg [.whole 2 16]] ([], []) (.leaf (.agg [.whole 6 16])) 1 [] <|
  .new <|
  .call 41 [.agg [.whole 3 16], .agg [.whole 4 16]] ([], []) (.leaf (.agg [.whole 7 16])) 1 [] <|
  .call 42 [.agg [.whole 7 16], .agg [.whole 5 16]] ([], []) (.leaf (.agg [.whole 8 16])) 1 [] <|
  .new <|
  .call 40 [.agg [.whole 3 16], .agg [.whole 4 16]] ([], []) (.leaf (.agg [.whole 9 16])) 1 [] <|
  .call 42 [.agg [.whole 9 16], .agg [.whole 6 16]] ([], []) (.leaf (.agg [.whole 10 16])) 1 [] <|
  .new <|
  .call 42 [.agg [.whole 5 16], .agg [.whole 5 16]] ([], []) (.leaf (.agg [.whole 11 16])) 1 [] <|
  .new <|
  .call 42 [.agg [.whole 6 16], .agg [.whole 6 16]] ([], []) (.leaf (.agg [.whole 12 16])) 1 [] <|
  .new <|
  .call 41 [.agg [.whole 11 16], .agg [.whole 12 16]] ([], []) (.leaf (.agg [.whole 13 16])) 1 [] <|
  .new <|
  .call 40 [.agg [.whole 8 16], .agg [.whole 10 16]] ([], []) (.leaf (.agg [.whole 14 16])) 1 [] <|
  .new <|
  .call 41 [.agg [.whole 8 16], .agg [.whole 10 16]] ([], []) (.leaf (.agg [.whole 15 16])) 1 [] <|
  .new <|
  .call 42 [.agg [.whole 11 16], .agg [.whole 12 16]] ([], []) (.leaf (.agg [.whole 16 16])) 1 [] <|
  .call 27 [.atom (.const (.int .i64 39081))] ([], []) (.leaf (.agg [.whole 17 16])) 1 [] <|
  .call 42 [.agg [.whole 17 16], .agg [.whole 13 16]] ([], []) (.leaf (.agg [.whole 18 16])) 1 [] <|
  .call 40 [.agg [.whole 11 16], .agg [.whole 18 16]] ([], []) (.leaf (.agg [.whole 19 16])) 1 [] <|
  .call 42 [.agg [.whole 13 16], .agg [.whole 19 16]] ([], []) (.leaf (.agg [.whole 20 16])) 1 [] <|
  .call 42 [.agg [.whole 14 16], .agg [.whole 14 16]] ([], []) (.leaf (.agg [.whole 21 16])) 1 [] <|
  .call 42 [.agg [.whole 15 16], .agg [.whole 15 16]] ([], []) (.leaf (.agg [.whole 22 16])) 1 [] <|
  .call 42 [.agg [.whole 0 16], .agg [.whole 22 16]] ([], []) (.leaf (.agg [.whole 23 16])) 1 [] <|
  .ret ([], []) (.leaf (.agg [.whole 16 16, .whole 20 16, .whole 21 16, .whole 23 16]))
theorem c_rstep10 : compF Try.prog Try.f12 o_rstep10 (Try.f12.body.getD .skip) (symIn [.agg [.whole 0 16], .agg [.whole 1 16, .whole 2 16, .whole 3 16, .whole 4 16]] Try.f12.ntmps 5) = some t_rstep10 := by kernel_rfl
theorem g_rstep10 : goodC Try.prog o_rstep10.ords (Try.f12.body.getD .skip) = true := by kernel_rfl
def tb_rstep10 : FuncId × Trans := (12, tRStep)
set_option maxRecDepth 100000 in
theorem aw_rstep10 : ∀ zs Q, tb_rstep10.2 zs Q → bindLs 0 [.agg [.whole 0 16], .agg [.whole 1 16, .whole 2 16, .whole 3 16, .whole 4 16]] zs fun ae => bif Nat.beq ae.length 5 then AWp Try.prog tjE Q t_rstep10 [] ae else False := by
  intro zs Q h
  replace h : tRStep zs Q := h
  unfold tRStep at h
  split at h
  case h_2 => exact h.elim
  rw [lstepR_eq] at h
  have i1 : I64 39081 := by unfold I64; omega
  repeat ((conv => whnf) <;> first | exact rfl | refine wI (by omega) ?_ | refine wB (by omega) ?_ | refine wR (by omega) ?_ | refine wQ (by omega) ?_ | with_reducible refine And.intro rfl ?_ | with_reducible refine And.intro (by assumption) ?_ | with_reducible refine cTe (by assumption) ?_ | with_reducible refine cFe (by assumption) ?_ | with_reducible refine cN (cTe (by assumption) ?_) | with_reducible refine cN (cFe (by assumption) ?_) | with_reducible refine cTe rfl ?_ | with_reducible refine cEq (by assumption) ?_ | with_reducible refine cTt ?_ | with_reducible refine cNt ?_ | with_reducible refine cF (Eq.refl false) ?_ | refine And.intro (fun hh => by first | (cases hh; done) | rfl) ?_ | refine And.intro (by omega) ?_ | refine cTd (by omega) ?_ | refine cFd (by omega) ?_ | refine cN (cTd (by omega) ?_) | refine cN (cFd (by omega) ?_) | refine And.intro (by simp only [AV.size, Nat.div_one, List.length_append, List.length_singleton]; omega) ?_)
  (conv => whnf)
  exact h
theorem tb_rstep10_ok : Con Try.prog tb_rstep10.1 tb_rstep10.2 := con_tree tjE_ok o_rstep10 [.agg [.whole 0 16], .agg [.whole 1 16, .whole 2 16, .whole 3 16, .whole 4 16]] 5 Try.func12 rfl c_rstep10 aw_rstep10 g_rstep10
def tjF : Tab := tb_rint :: tb_rlen :: tb_rbit :: tb_rstep10 :: tb_rinv :: tb_rmul :: []
theorem tjF_ok : tjF.OK Try.prog := tab_cons tb_rint_ok <| tab_cons tb_rlen_ok <| tab_cons tb_rbit_ok <| tab_cons tb_rstep10_ok <| tab_cons tb_rinv_ok <| tab_cons tb_rmul_ok <| tab_nil _
theorem zsR4 {i i' : Int} {p p' : L4} (h2 : i = i') (h3 : p = p') : [AV.int .i64 i, .fg p.x0, .fg p.z0, .fg p.x1, .fg p.z1] = [.int .i64 i', .fg p'.x0, .fg p'.z0, .fg p'.x1, .fg p'.z1] := by rw [h2, h3]
theorem ladS_succ (u : F) {j n m : Nat} (h : n = j + 1) : ladS u n m = lbit u m (ladS u j (m / 2)) := by subst h; rfl
def o_rladder : Orc := { ans := [(7, .one ⟨.leaf (.agg [.whole 0 16]), 1, []⟩), (8, .one ⟨.leaf (.agg [.whole 0 16]), 1, []⟩), (9, .one ⟨.leaf (.agg [.whole 0 16]), 1, []⟩), (12, .one ⟨.leaf (.atom (.var 0)), 1, []⟩), (13, .one ⟨.leaf (.atom (.var 0)), 1, []⟩), (15, .two ⟨.leaf (.atom (.const (.bool true))), 0, []⟩ ⟨.leaf (.atom (.const (.bool false))), 0, []⟩), (20, .one ⟨.leaf (.atom (.var 0)), 1, []⟩), (21, .two ⟨.leaf (.atom (.const (.bool true))), 0, []⟩ ⟨.leaf (.atom (.const (.bool false))), 0, []⟩), (22, .one ⟨.leaf (.agg [.whole 0 16]), 1, []⟩), (23, .one ⟨.leaf (.atom (.var 0)), 1, []⟩), (24, .one ⟨.leaf (.agg [.whole 0 16]), 1, []⟩), (25, .one ⟨.leaf (.atom (.var 0)), 1, []⟩), (26, .one ⟨.leaf (.agg [.whole 0 16]), 1, []⟩), (27, .one ⟨.leaf (.atom (.var 0)), 1, []⟩), (28, .one ⟨.leaf (.agg [.whole 0 16]), 1, []⟩), (29, .one ⟨.leaf (.atom (.var 0)), 1, []⟩), (30, .one ⟨.leaf (.agg [.whole 0 16]), 1, []⟩), (32, .one ⟨.leaf (.agg [.whole 0 16, .whole 1 16, .whole 2 16, .whole 3 16]), 4, []⟩), (33, .one ⟨.leaf (.atom (.var 0)), 1, []⟩), (34, .one ⟨.leaf (.agg [.whole 0 16]), 1, []⟩), (35, .one ⟨.leaf (.atom (.var 0)), 1, []⟩), (36, .one ⟨.leaf (.agg [.whole 0 16]), 1, []⟩), (37, .one ⟨.leaf (.atom (.var 0)), 1, []⟩), (38, .one ⟨.leaf (.agg [.whole 0 16]), 1, []⟩), (39, .one ⟨.leaf (.atom (.var 0)), 1, []⟩), (40, .one ⟨.leaf (.agg [.whole 0 16]), 1, []⟩), (42, .one ⟨.leaf (.agg [.whole 0 16]), 1, []⟩), (43, .one ⟨.leaf (.agg [.whole 0 16, .whole 1 16, .whole 2 16, .whole 3 16]), 4, []⟩), (44, .one ⟨.leaf (.agg [.whole 0 16, .whole 1 16, .whole 2 16, .whole 3 16]), 4, []⟩), (17, .one ⟨.leaf (.atom (.var 0)), 1, []⟩), (45, .one ⟨.leaf (.atom (.var 0)), 1, []⟩), (46, .one ⟨.leaf (.agg [.whole 0 16]), 1, []⟩), (47, .one ⟨.leaf (.atom (.var 0)), 1, []⟩), (48, .one ⟨.leaf (.agg [.whole 0 16]), 1, []⟩), (49, .one ⟨.leaf (.agg [.whole 0 16]), 1, []⟩), (50, .one ⟨.leaf (.agg [.whole 0 16]), 1, []⟩)], lps := [(0, [.slot 6 [.one], .blk 2 [.agg 16, .agg 16, .agg 16, .agg 16]])], ords := [(1, [.quiet 1, .call 0 [4], .call 2 [4], .pure 3, .make 4 [], .last 5]), (9, [.quiet 0, .quiet 1, .quiet 2, .quiet 3, .call 4 [], .call 5 [], .last 6])] }
def t_rladder : Tree :=
  .new <|
  .new <|
  .call 27 [.atom (.const (.int .i64 1))] ([], []) (.leaf (.agg [.whole 2 16])) 1 [] <|
  .call 27 [.atom (.const (.int .i64 1))] ([], []) (.leaf (.agg [.whole 3 16])) 1 [] <|
  .new <|
  .call 47 [.atom (.var 0)] ([], []) (.leaf (.atom (.var 4))) 1 [] <|
  .calc (.binOp .sub 3 (.tmp 12) (.const (.int .i64 1)) 3) 3 [(12, .leaf (.atom (.var 4)))] ([], []) (.leaf (.atom (.var 5))) 1 <|
  .loop [.atom (.var 5), .agg [.whole 2 16], .agg [.lit [.int .i64 0, .int .i64 0, .int .i64 0, .int .i64 0, .int .i64 0, .int .i64 0, .int .i64 0, .int .i64 0, .int .i64 0, .int .i64 0, .int .i64 0, .int .i64 0, .int .i64 0, .int .i64 0, .int .i64 0, .int .i64 0]], .agg [.whole 1 16], .agg [.whole 3 16]] [.one, .agg 16, .agg 16, .agg 16, .agg 16] <|
  .calc2 (.binOp .geq 3 (.tmp 14) (.const (.int .i64 0)) 3) 4 [(14, .leaf (.atom (.var 6)))] ([], []) (.leaf (.atom (.const (.bool true)))) 0 (
    .call 48 [.atom (.var 0), .atom (.var 6)] ([], []) (.leaf (.atom (.var 11))) 1 [] <|
    .calc2 (.binOp .eql 3 (.tmp 20) (.const (.int .i64 1)) 3) 4 [(20, .leaf (.atom (.var 11)))] ([], []) (.leaf (.atom (.const (.bool true)))) 0 (
      .call 12 [.agg [.whole 1 16], .agg [.whole 9 16, .whole 10 16, .whole 7 16, .whole 8 16]] ([], []) (.leaf (.agg [.whole 12 16, .whole 13 16, .whole 14 16, .whole 15 16])) 4 [] <|
      .calc (.binOp .sub 3 (.tmp 16) (.const (.int .i64 1)) 3) 3 [(16, .leaf (.atom (.var 6)))] ([], []) (.leaf (.atom (.var 16))) 1 <|
      .again 0 [.atom (.var 16), .agg [.whole 14 16], .agg [.whole 15 16], .agg [.whole 12 16], .agg [.whole 13 16]]) (.leaf (.atom (.const (.bool false)))) 0 <|
    .call 12 [.agg [.whole 1 16], .agg [.whole 7 16, .whole 8 16, .whole 9 16, .whole 10 16]] ([], []) (.leaf (.agg [.whole 12 16, .whole 13 16, .whole 14 16, .whole 15 16])) 4 [] <|
    .calc (.binOp .sub 3 (.tmp 16) (.const (.int .i64 1)) 3) 3 [(16, .leaf (.atom (.var 6)))] ([], []) (.leaf (.atom (.var 16))) 1 <|
    .again 0 [.atom (.var 16), .agg [.whole 12 16], .agg [.whole 13 16], .agg [.whole 14 16], .agg [.whole 15 16]]) (.leaf (.atom (.const (.bool false)))) 0 <|
  .call 49 [.agg [.whole 8 16]] ([], []) (.leaf (.agg [.whole 11 16])) 1 [] <|
  .call 42 [.agg [.whole 7 16], .agg [.whole 11 16]] ([], []) (.leaf (.agg [.whole 12 16])) 1 [] <|
  .ret ([], []) (.leaf (.agg [.whole 12 16]))
theorem c_rladder : compF Try.prog Try.f18 o_rladder (Try.f18.body.getD .skip) (symIn [.atom (.var 0), .agg [.whole 1 16]] Try.f18.ntmps 2) = some t_rladder := by kernel_rfl
theorem g_rladder : goodC Try.prog o_rladder.ords (Try.f18.body.getD .skip) = true := by kernel_rfl
def tb_rladder : FuncId × Trans := (18, tRLad)
set_option maxRecDepth 100000 in
theorem aw_rladder : ∀ zs Q, tb_rladder.2 zs Q → bindLs 0 [.atom (.var 0), .agg [.whole 1 16]] zs fun ae => bif Nat.beq ae.length 2 then AWp Try.prog tjF Q t_rladder [] ae else False := by
  intro zs Q h
  replace h : tRLad zs Q := h
  unfold tRLad at h
  split at h
  case h_2 => exact h.elim
  rename_i k u
  obtain ⟨⟨hb, hl⟩, h⟩ := h
  have hlt := lenB_lt hb
  have hle := lenB_le k
  have i1 : I64 1 := by unfold I64; omega
  have mk : By k ∧ k.length ≤ 1000000 := ⟨hb, by omega⟩
  repeat ((conv => whnf) <;> first | exact rfl | refine wI (by omega) ?_ | refine wB (by omega) ?_ | refine wR (by omega) ?_ | refine wQ (by omega) ?_ | with_reducible refine And.intro rfl ?_ | with_reducible refine And.intro (by assumption) ?_ | with_reducible refine cTe (by assumption) ?_ | with_reducible refine cFe (by assumption) ?_ | with_reducible refine cN (cTe (by assumption) ?_) | with_reducible refine cN (cFe (by assumption) ?_) | with_reducible refine cTe rfl ?_ | with_reducible refine cEq (by assumption) ?_ | with_reducible refine cTt ?_ | with_reducible refine cNt ?_ | with_reducible refine cF (Eq.refl false) ?_ | refine And.intro (fun hh => by first | (cases hh; done) | rfl) ?_ | refine And.intro (by omega) ?_ | refine cTd (by omega) ?_ | refine cFd (by omega) ?_ | refine cN (cTd (by omega) ?_) | refine cN (cFd (by omega) ?_) | refine And.intro (by simp only [AV.size, Nat.div_one, List.length_append, List.length_singleton]; omega) ?_)
  refine ⟨Nat, fun j zs => j ≤ lenB k ∧ zs = [.int .i64 ((j : Int) - 1), .fg (ladS u (lenB k - j) (nval k / 2 ^ j)).x0, .fg (ladS u (lenB k - j) (nval k / 2 ^ j)).z0, .fg (ladS u (lenB k - j) (nval k / 2 ^ j)).x1, .fg (ladS u (lenB k - j) (nval k / 2 ^ j)).z1], fun j => j, lenB k, ?_, ?_⟩
  · (conv => whnf)
    refine ⟨[.int .i64 ((lenB k : Int) - 1), .fg (z 1), .fg (z 0), .fg u, .fg (z 1)], ⟨Sub.refl' _, Sub.refl' _, sub_fg0, Sub.refl' _, Sub.refl' _, trivial⟩, Nat.le_refl _, ?_⟩
    rw [Nat.sub_self, Nat.div_eq_of_lt hlt]
    rfl
  rintro j _ ⟨hj, rfl⟩
  cases j with
  | zero =>
    have e : (ladS u (lenB k - 0) (nval k / 2 ^ 0)).x0 * inv (ladS u (lenB k - 0) (nval k / 2 ^ 0)).z0 = ladU u (nval k) := by
      rw [Nat.pow_zero, Nat.div_one]; exact ladU_eq hlt
    rw [← e] at h
    repeat ((conv => whnf) <;> first | exact rfl | refine wI (by omega) ?_ | refine wB (by omega) ?_ | refine wR (by omega) ?_ | refine wQ (by omega) ?_ | with_reducible refine And.intro rfl ?_ | with_reducible refine And.intro (by assumption) ?_ | with_reducible refine cTe (by assumption) ?_ | with_reducible refine cFe (by assumption) ?_ | with_reducible refine cN (cTe (by assumption) ?_) | with_reducible refine cN (cFe (by assumption) ?_) | with_reducible refine cTe rfl ?_ | with_reducible refine cEq (by assumption) ?_ | with_reducible refine cTt ?_ | with_reducible refine cNt ?_ | with_reducible refine cF (Eq.refl false) ?_ | refine And.intro (fun hh => by first | (cases hh; done) | rfl) ?_ | refine And.intro (by omega) ?_ | refine cTd (by omega) ?_ | refine cFd (by omega) ?_ | refine cN (cTd (by omega) ?_) | refine cN (cFd (by omega) ?_) | refine And.intro (by simp only [AV.size, Nat.div_one, List.length_append, List.length_singleton]; omega) ?_)
    (conv => whnf)
    exact h
  | succ m =>
    have hbz : bitZ k (((m + 1 : Nat) : Int) - 1) = ((nval k / 2 ^ m % 2 : Nat) : Int) := by rw [show (((m + 1 : Nat) : Int) - 1) = (m : Int) by omega, bitZ_nat]
    have e1 : nval k / 2 ^ (m + 1) = nval k / 2 ^ m / 2 := by rw [Nat.pow_succ, Nat.div_div_eq_div_mul]
    have e2 := ladS_succ u (j := lenB k - (m + 1)) (n := lenB k - m) (m := nval k / 2 ^ m) (by omega)
    rw [e1]
    generalize hs : ladS u (lenB k - (m + 1)) (nval k / 2 ^ m / 2) = s at *
    have i2 : I64 (((m + 1 : Nat) : Int) - 1) := by unfold I64; omega
    have mb : By k ∧ k.length ≤ 1000000 ∧ I64 (((m + 1 : Nat) : Int) - 1) := ⟨hb, by omega, i2⟩
    by_cases hz : bitZ k (((m + 1 : Nat) : Int) - 1) = 1
    · have e3 : lbit u (nval k / 2 ^ m) s = lswap (lstep u (lswap s)) := by unfold lbit lif; rw [if_pos (by omega), if_pos (by omega)]
      rw [e3] at e2
      repeat ((conv => whnf) <;> first | exact rfl | refine wI (by omega) ?_ | refine wB (by omega) ?_ | refine wR (by omega) ?_ | refine wQ (by omega) ?_ | with_reducible refine And.intro rfl ?_ | with_reducible refine And.intro (by assumption) ?_ | with_reducible refine cTe (by assumption) ?_ | with_reducible refine cFe (by assumption) ?_ | with_reducible refine cN (cTe (by assumption) ?_) | with_reducible refine cN (cFe (by assumption) ?_) | with_reducible refine cTe rfl ?_ | with_reducible refine cEq (by assumption) ?_ | with_reducible refine cTt ?_ | with_reducible refine cNt ?_ | with_reducible refine cF (Eq.refl false) ?_ | refine And.intro (fun hh => by first | (cases hh; done) | rfl) ?_ | refine And.intro (by omega) ?_ | refine cTd (by omega) ?_ | refine cFd (by omega) ?_ | refine cN (cTd (by omega) ?_) | refine cN (cFd (by omega) ?_) | refine And.intro (by simp only [AV.size, Nat.div_one, List.length_append, List.length_singleton]; omega) ?_)
      (conv => whnf)
      refine ⟨_, Subs.refl' _, m, ⟨by omega, ?_⟩, Nat.lt_succ_self m⟩
      rw [e2]
      exact zsR4 (p := lswap (lstep u (lswap s))) (by omega) rfl
    · have e3 : lbit u (nval k / 2 ^ m) s = lstep u s := by unfold lbit lif; have := bitZ_or k (((m + 1 : Nat) : Int) - 1); rw [if_neg (by omega), if_neg (by omega)]
      rw [e3] at e2
      repeat ((conv => whnf) <;> first | exact rfl | refine wI (by omega) ?_ | refine wB (by omega) ?_ | refine wR (by omega) ?_ | refine wQ (by omega) ?_ | with_reducible refine And.intro rfl ?_ | with_reducible refine And.intro (by assumption) ?_ | with_reducible refine cTe (by assumption) ?_ | with_reducible refine cFe (by assumption) ?_ | with_reducible refine cN (cTe (by assumption) ?_) | with_reducible refine cN (cFe (by assumption) ?_) | with_reducible refine cTe rfl ?_ | with_reducible refine cEq (by assumption) ?_ | with_reducible refine cTt ?_ | with_reducible refine cNt ?_ | with_reducible refine cF (Eq.refl false) ?_ | refine And.intro (fun hh => by first | (cases hh; done) | rfl) ?_ | refine And.intro (by omega) ?_ | refine cTd (by omega) ?_ | refine cFd (by omega) ?_ | refine cN (cTd (by omega) ?_) | refine cN (cFd (by omega) ?_) | refine And.intro (by simp only [AV.size, Nat.div_one, List.length_append, List.length_singleton]; omega) ?_)
      (conv => whnf)
      refine ⟨_, Subs.refl' _, m, ⟨by omega, ?_⟩, Nat.lt_succ_self m⟩
      rw [e2]
      exact zsR4 (p := lstep u s) (by omega) rfl
theorem tb_rladder_ok : Con Try.prog tb_rladder.1 tb_rladder.2 := con_tree tjF_ok o_rladder [.atom (.var 0), .agg [.whole 1 16]] 2 Try.func18 rfl c_rladder aw_rladder g_rladder
end Go.Proofs.Ytmbapbbneapcnaa
