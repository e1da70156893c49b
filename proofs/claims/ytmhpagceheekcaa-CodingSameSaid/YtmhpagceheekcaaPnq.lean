/- Chapter 8: laws with the document's answer -/
import Derived.Test.YtmhpagceheekcaaRpt
import Derived.Test.YtmhpagceheekcaaPnx
set_option linter.unusedSimpArgs false
set_option linter.unusedVariables false
namespace Go.Proofs.Ytmhpagceheekcaa
open Go.RowKit FdP FdP.Ch
def tD : Trans := fun zs Q => match zs with
  | [] => Q (.fg cd)
  | _ => False
def tblqD : Tab := tb_rint :: []
theorem tblqD_ok : tblqD.OK Try.prog := tab_cons tb_rint_ok <| tab_nil _
def o_rpd : Orc := { ans := [(1, .one ⟨.leaf (.agg [.whole 0 16]), 1, []⟩)], lps := [] }
def t_rpd : Tree :=
  .new <|
  .call 34 [.atom (.const (.int .i64 (-39081)))] ([], []) (.leaf (.agg [.whole 0 16])) 1 [] <|
  .ret ([], []) (.leaf (.agg [.whole 0 16]))
theorem c_rpd : compF Try.prog Try.f38 o_rpd (Try.f38.body.getD .skip) (symIn [] Try.f38.ntmps 0) = some t_rpd := by kernel_rfl
theorem g_rpd : goodC Try.prog o_rpd.ords (Try.f38.body.getD .skip) = true := by kernel_rfl
def tb_rpd : FuncId × Trans := (38, tD)
set_option maxRecDepth 100000 in
theorem aw_rpd : ∀ zs Q, tb_rpd.2 zs Q → bindLs 0 [] zs fun ae => bif Nat.beq ae.length 0 then AWp Try.prog tblqD Q t_rpd [] ae else False := by
  intro zs Q h
  replace h : tD zs Q := h
  unfold tD at h
  split at h
  case h_2 => exact h.elim
  repeat ((conv => whnf) <;> first | refine wI (by omega) ?_ | refine wB (by omega) ?_ | refine wR (by omega) ?_ | refine wQ (by omega) ?_ | with_reducible refine And.intro rfl ?_ | with_reducible refine And.intro (by assumption) ?_ | with_reducible refine cTe (by assumption) ?_ | with_reducible refine cFe (by assumption) ?_ | with_reducible refine cTt ?_ | with_reducible refine cNt ?_ | refine And.intro (fun hh => by cases hh) ?_ | refine And.intro (by omega) ?_ | refine cTd (by omega) ?_ | refine cFd (by omega) ?_)
  refine ⟨⟨by decide, by decide⟩, ?_⟩
  (conv => whnf)
  exact h
theorem tb_rpd_ok : Con Try.prog tb_rpd.1 tb_rpd.2 := con_tree tblqD_ok o_rpd [] 0 Try.func38 rfl c_rpd aw_rpd g_rpd
def tblqO : Tab := tb_rpd :: tb_rint :: tb_rmul :: tb_radd :: tb_rsame :: []
theorem tblqO_ok : tblqO.OK Try.prog := tab_cons tb_rpd_ok <| tab_cons tb_rint_ok <| tab_cons tb_rmul_ok <| tab_cons tb_radd_ok <| tab_cons tb_rsame_ok <| tab_nil _
def tOn0 : Trans := fun zs Q => match zs with
  | [.fg x, .fg y] => Q (.bool (dec (x * x + y * y = 1 + cd * ((x * x) * (y * y)))))
  | _ => False
theorem oneZ (x : F) : z 1 + x = 1 + x := by rw [z_one]
def o_rpon0 : Orc := { ans := [(7, .one ⟨.leaf (.agg [.whole 0 16]), 1, []⟩), (8, .one ⟨.leaf (.agg [.whole 0 16]), 1, []⟩), (9, .one ⟨.leaf (.agg [.whole 0 16]), 1, []⟩), (10, .one ⟨.leaf (.agg [.whole 0 16]), 1, []⟩), (11, .one ⟨.leaf (.agg [.whole 0 16]), 1, []⟩), (12, .one ⟨.leaf (.agg [.whole 0 16]), 1, []⟩), (13, .one ⟨.leaf (.agg [.whole 0 16]), 1, []⟩), (14, .one ⟨.leaf (.agg [.whole 0 16]), 1, []⟩), (15, .one ⟨.leaf (.agg [.whole 0 16]), 1, []⟩), (16, .one ⟨.leaf (.agg [.whole 0 16]), 1, []⟩), (17, .one ⟨.leaf (.agg [.whole 0 16]), 1, []⟩), (18, .one ⟨.leaf (.agg [.whole 0 16]), 1, []⟩), (19, .one ⟨.leaf (.agg [.whole 0 16]), 1, []⟩), (20, .one ⟨.leaf (.agg [.whole 0 16]), 1, []⟩), (21, .one ⟨.leaf (.agg [.whole 0 16]), 1, []⟩), (22, .one ⟨.leaf (.agg [.whole 0 16]), 1, []⟩), (23, .two ⟨.leaf (.atom (.const (.bool true))), 0, []⟩ ⟨.leaf (.atom (.const (.bool false))), 0, []⟩)], lps := [], ords := [(3, [.quiet 0, .quiet 1, .quiet 5, .quiet 6, .call 2 [], .call 3 [], .call 4 [], .call 7 [], .call 8 [], .call 9 [], .call 10 [], .pure 11])] }
def t_rpon0 : Tree :=
  .new <|
  .new <|
  .call 36 [.agg [.whole 0 16], .agg [.whole 0 16]] ([], []) (.leaf (.agg [.whole 2 16])) 1 [] <|
  .new <|
  .call 36 [.agg [.whole 1 16], .agg [.whole 1 16]] ([], []) (.leaf (.agg [.whole 3 16])) 1 [] <|
  .new <|
  .call 70 [.agg [.whole 2 16], .agg [.whole 3 16]] ([], []) (.leaf (.agg [.whole 4 16])) 1 [] <|
  .call 34 [.atom (.const (.int .i64 1))] ([], []) (.leaf (.agg [.whole 5 16])) 1 [] <|
  .call 38 [] ([], []) (.leaf (.agg [.whole 6 16])) 1 [] <|
  .call 36 [.agg [.whole 2 16], .agg [.whole 3 16]] ([], []) (.leaf (.agg [.whole 7 16])) 1 [] <|
  .call 36 [.agg [.whole 6 16], .agg [.whole 7 16]] ([], []) (.leaf (.agg [.whole 8 16])) 1 [] <|
  .call 70 [.agg [.whole 5 16], .agg [.whole 8 16]] ([], []) (.leaf (.agg [.whole 9 16])) 1 [] <|
  .call2 41 [.agg [.whole 4 16], .agg [.whole 9 16]] ([], []) (.leaf (.atom (.const (.bool true)))) 0 [] (
    .ret ([], []) (.leaf (.atom (.const (.bool true))))) (.leaf (.atom (.const (.bool false)))) 0 [] <|
  .ret ([], []) (.leaf (.atom (.const (.bool false))))
def tPlain8 : Trans := fun zs Q => match zs with
  | [.agg [.ints .u8 l, .int .i64 n]] => (l.length = 57 ∧ By l) ∧ Q (.ob (.fpt (mulG (nval l) BG + mulG (quart n) TG)))
  | _ => False
def tb_rpaddS : FuncId × Trans := (tb_rpadd.1, tSub tb_rpadd.2)
theorem tb_rpaddS_ok : Con Try.prog tb_rpaddS.1 tb_rpaddS.2 := con_tSub tb_rpadd_ok
theorem sub_TG : Sub (.agg [.fg (z 1), .lit (List.replicate 16 (.int .i64 0)), .fg (z 1)]) (.ob (.fpt TG)) := by
  intro β v hv
  refine (way_fpt.shuts (b := .agg [.fg (z 1), .fg (z 0), .fg (z 1)]) ⟨z 1, z 0, z 1, rfl, Rep.of TG⟩ ?_).2
  obtain ⟨cs, rfl, c1, d1, e1, n1, h1, c2, d2, e2, n2, ⟨h2, _⟩, h3⟩ := hv.agg rfl
  refine (valR0.mk (a := .agg [.fg (z 1), .fg (z 0), .fg (z 1)]) rfl ⟨c1, d1, e1, n1, h1, c2, d2, e2, n2, ?_, h3⟩ : valR0 β _ _)
  show c2 = is (dgs (z 0))
  rw [h2, z_zero, fg_zero]
def tblqP : Tab := tb_rint :: tb_rpbase :: tb_rptimes :: tb_rpaddS :: []
theorem tblqP_ok : tblqP.OK Try.prog := tab_cons tb_rint_ok <| tab_cons tb_rpbase_ok <| tab_cons tb_rptimes_ok <| tab_cons tb_rpaddS_ok <| tab_nil _
def o_plain8 : Orc := { ans := [(6, .one ⟨.leaf (.agg [.whole 0 16]), 1, []⟩), (8, .one ⟨.leaf (.agg [.whole 0 16]), 1, []⟩), (10, .one ⟨.leaf (.atom (.var 0)), 1, []⟩), (11, .one ⟨.leaf (.atom (.var 0)), 1, []⟩), (12, .one ⟨.leaf (.agg [.whole 0 48]), 1, []⟩), (13, .one ⟨.leaf (.agg [.whole 0 48]), 1, []⟩), (15, .one ⟨.leaf (.atom (.var 0)), 1, []⟩), (16, .one ⟨.leaf (.atom (.var 0)), 1, []⟩), (17, .one ⟨.leaf (.atom (.var 0)), 1, []⟩), (18, .one ⟨.leaf (.atom (.var 0)), 1, []⟩), (19, .one ⟨.leaf (.atom (.var 0)), 1, []⟩), (20, .two ⟨.leaf (.atom (.const (.bool true))), 0, []⟩ ⟨.leaf (.atom (.const (.bool false))), 0, []⟩), (23, .one ⟨.leaf (.agg [.whole 0 48]), 1, []⟩), (24, .one ⟨.leaf (.agg [.whole 0 48]), 1, []⟩), (25, .one ⟨.leaf (.agg [.whole 0 48]), 1, []⟩), (22, .one ⟨.leaf (.atom (.var 0)), 1, []⟩), (26, .one ⟨.leaf (.agg [.whole 0 48]), 1, []⟩)], lps := [(0, [.slot 5 [.one], .blk 3 [.agg 48]])], ords := [(2, [.quiet 0, .quiet 1, .call 2 [4], .call 3 [4], .make 4 [], .last 5])] }
def t_plain8 : Tree :=
  .new <|
  .new <|
  .call 34 [.atom (.const (.int .i64 1))] ([], []) (.leaf (.agg [.whole 2 16])) 1 [] <|
  .call 34 [.atom (.const (.int .i64 1))] ([], []) (.leaf (.agg [.whole 3 16])) 1 [] <|
  .new <|
  .call 65 [] ([], []) (.leaf (.agg [.whole 4 48])) 1 [] <|
  .call 64 [.atom (.slc 0 0 57 57), .agg [.whole 4 48]] ([([.whole 0 57, .one (.var 1)], 59), ([.lit [.int .i64 0, .int .i64 0, .int .i64 0, .int .i64 0, .int .i64 0, .int .i64 0, .int .i64 0, .int .i64 0, .int .i64 0, .int .i64 0, .int .i64 0, .int .i64 0, .int .i64 0, .int .i64 0, .int .i64 0, .int .i64 0, .int .i64 0, .int .i64 0, .int .i64 0, .int .i64 0, .int .i64 0, .int .i64 0, .int .i64 0, .int .i64 0, .int .i64 0, .int .i64 0, .int .i64 0, .int .i64 0, .int .i64 0, .int .i64 0, .int .i64 0, .int .i64 0, .int .i64 0, .int .i64 0, .int .i64 0, .int .i64 0, .int .i64 0, .int .i64 0, .int .i64 0, .int .i64 0, .int .i64 0, .int .i64 0, .int .i64 0, .int .i64 0, .int .i64 0, .int .i64 0, .int .i64 0, .int .i64 0]], 36), ([.whole 2 16, .lit [.int .i64 0, .int .i64 0, .int .i64 0, .int .i64 0, .int .i64 0, .int .i64 0, .int .i64 0, .int .i64 0, .int .i64 0, .int .i64 0, .int .i64 0, .int .i64 0, .int .i64 0, .int .i64 0, .int .i64 0, .int .i64 0], .whole 3 16], 36)], []) (.leaf (.agg [.whole 5 48])) 1 [] <|
  .new <|
  .loop [.atom (.const (.int .i64 0)), .agg [.whole 5 48]] [.one, .agg 48] <|
  .calc (.binOp .rem 3 (.tmp 16) (.const (.int .i64 4)) 3) 3 [(16, .leaf (.atom (.var 1)))] ([], []) (.leaf (.atom (.var 8))) 1 <|
  .calc (.binOp .add 3 (.tmp 17) (.const (.int .i64 4)) 3) 3 [(17, .leaf (.atom (.var 8)))] ([], []) (.leaf (.atom (.var 9))) 1 <|
  .calc (.binOp .rem 3 (.tmp 18) (.const (.int .i64 4)) 3) 3 [(18, .leaf (.atom (.var 9)))] ([], []) (.leaf (.atom (.var 10))) 1 <|
  .calc2 (.binOp .lss 3 (.tmp 14) (.tmp 19) 3) 4 [(14, .leaf (.atom (.var 6))), (19, .leaf (.atom (.var 10)))] ([], []) (.leaf (.atom (.const (.bool true)))) 0 (
    .call 66 [.agg [.whole 7 48], .agg [.whole 2 16, .lit [.int .i64 0, .int .i64 0, .int .i64 0, .int .i64 0, .int .i64 0, .int .i64 0, .int .i64 0, .int .i64 0, .int .i64 0, .int .i64 0, .int .i64 0, .int .i64 0, .int .i64 0, .int .i64 0, .int .i64 0, .int .i64 0], .whole 3 16]] ([], []) (.leaf (.agg [.whole 11 48])) 1 [] <|
    .calc (.binOp .add 3 (.tmp 21) (.const (.int .i64 1)) 3) 3 [(21, .leaf (.atom (.var 6)))] ([], []) (.leaf (.atom (.var 12))) 1 <|
    .again 0 [.atom (.var 12), .agg [.whole 11 48]]) (.leaf (.atom (.const (.bool false)))) 0 <|
  .ret ([], []) (.leaf (.agg [.whole 7 48]))
theorem c_plain8 : compF Try.prog Try.f27 o_plain8 (Try.f27.body.getD .skip) (symIn [.agg [.whole 0 57, .one (.var 1)]] Try.f27.ntmps 2) = some t_plain8 := by kernel_rfl
theorem g_plain8 : goodC Try.prog o_plain8.ords (Try.f27.body.getD .skip) = true := by kernel_rfl
def tb_plain8 : FuncId × Trans := (27, tPlain8)
set_option maxRecDepth 100000 in
theorem aw_plain8 : ∀ zs Q, tb_plain8.2 zs Q → bindLs 0 [.agg [.whole 0 57, .one (.var 1)]] zs fun ae => bif Nat.beq ae.length 2 then AWp Try.prog tblqP Q t_plain8 [] ae else False := by
  intro zs Q h
  replace h : tPlain8 zs Q := h
  unfold tPlain8 at h
  split at h
  case h_2 => exact h.elim
  rename_i l n
  obtain ⟨⟨hl, hb⟩, h⟩ := h
  repeat ((conv => whnf) <;> first | refine wI (by omega) ?_ | refine wB (by omega) ?_ | refine wR (by omega) ?_ | refine wQ (by omega) ?_ | with_reducible refine And.intro rfl ?_ | with_reducible refine And.intro (by assumption) ?_ | with_reducible refine cTe (by assumption) ?_ | with_reducible refine cFe (by assumption) ?_ | with_reducible refine cTt ?_ | with_reducible refine cNt ?_ | refine And.intro (fun hh => by cases hh) ?_ | refine And.intro (by omega) ?_ | refine cTd (by omega) ?_ | refine cFd (by omega) ?_)
  refine ⟨⟨by decide, by decide⟩, ?_⟩
  repeat ((conv => whnf) <;> first | refine wI (by omega) ?_ | refine wB (by omega) ?_ | refine wR (by omega) ?_ | refine wQ (by omega) ?_ | with_reducible refine And.intro rfl ?_ | with_reducible refine And.intro (by assumption) ?_ | with_reducible refine cTe (by assumption) ?_ | with_reducible refine cFe (by assumption) ?_ | with_reducible refine cTt ?_ | with_reducible refine cNt ?_ | refine And.intro (fun hh => by cases hh) ?_ | refine And.intro (by omega) ?_ | refine cTd (by omega) ?_ | refine cFd (by omega) ?_)
  refine ⟨⟨by decide, by decide⟩, ?_⟩
  repeat ((conv => whnf) <;> first | refine wI (by omega) ?_ | refine wB (by omega) ?_ | refine wR (by omega) ?_ | refine wQ (by omega) ?_ | with_reducible refine And.intro rfl ?_ | with_reducible refine And.intro (by assumption) ?_ | with_reducible refine cTe (by assumption) ?_ | with_reducible refine cFe (by assumption) ?_ | with_reducible refine cTt ?_ | with_reducible refine cNt ?_ | refine And.intro (fun hh => by cases hh) ?_ | refine And.intro (by omega) ?_ | refine cTd (by omega) ?_ | refine cFd (by omega) ?_)
  refine ⟨⟨by omega, hb⟩, ?_⟩
  repeat ((conv => whnf) <;> first | refine wI (by omega) ?_ | refine wB (by omega) ?_ | refine wR (by omega) ?_ | refine wQ (by omega) ?_ | with_reducible refine And.intro rfl ?_ | with_reducible refine And.intro (by assumption) ?_ | with_reducible refine cTe (by assumption) ?_ | with_reducible refine cFe (by assumption) ?_ | with_reducible refine cTt ?_ | with_reducible refine cNt ?_ | refine And.intro (fun hh => by cases hh) ?_ | refine And.intro (by omega) ?_ | refine cTd (by omega) ?_ | refine cFd (by omega) ?_)
  have hq := tmod4 n
  refine ⟨Nat, fun j zs => j ≤ quart n ∧ zs = [.int .i64 (j : Int), .ob (.fpt (mulG (nval l) BG + mulG j TG))], fun j => quart n - j, 0, ?_, ?_⟩
  · (conv => whnf)
    exact ⟨_, Subs.refl' _, Nat.zero_le _, zsP rfl (by rw [mulG_zero, G.add_zero])⟩
  rintro j _ ⟨hj, rfl⟩
  unfold quart at *
  by_cases hlt : j < (n % 4).toNat
  · have e : mulG (nval l) BG + mulG j TG + TG = mulG (nval l) BG + mulG (j + 1) TG := by rw [mulG_add, mulG_one, G.assoc]
    generalize mulG (nval l) BG + mulG j TG = g at *
    (conv => whnf)
    refine And.intro (by decide) ?_
    (conv => whnf)
    refine wT ?_
    repeat ((conv => whnf) <;> first | refine wI (by omega) ?_ | refine wB (by omega) ?_ | refine wR (by omega) ?_ | refine wQ (by omega) ?_ | with_reducible refine And.intro rfl ?_ | with_reducible refine And.intro (by assumption) ?_ | with_reducible refine cTe (by assumption) ?_ | with_reducible refine cFe (by assumption) ?_ | with_reducible refine cTt ?_ | with_reducible refine cNt ?_ | refine And.intro (fun hh => by cases hh) ?_ | refine And.intro (by omega) ?_ | refine cTd (by omega) ?_ | refine cFd (by omega) ?_)
    refine ⟨[.ob (.fpt g), .ob (.fpt TG)], ⟨Sub.refl' _, sub_TG, trivial⟩, ?_⟩
    repeat ((conv => whnf) <;> first | refine wI (by omega) ?_ | refine wB (by omega) ?_ | refine wR (by omega) ?_ | refine wQ (by omega) ?_ | with_reducible refine And.intro rfl ?_ | with_reducible refine And.intro (by assumption) ?_ | with_reducible refine cTe (by assumption) ?_ | with_reducible refine cFe (by assumption) ?_ | with_reducible refine cTt ?_ | with_reducible refine cNt ?_ | refine And.intro (fun hh => by cases hh) ?_ | refine And.intro (by omega) ?_ | refine cTd (by omega) ?_ | refine cFd (by omega) ?_)
    (conv => whnf)
    exact ⟨_, Subs.refl' _, j + 1, ⟨by omega, zsP (by omega) e⟩, by show (n % 4).toNat - (j + 1) < (n % 4).toNat - j; omega⟩
  · obtain rfl : j = (n % 4).toNat := by omega
    (conv => whnf)
    refine And.intro (by decide) ?_
    (conv => whnf)
    refine wT ?_
    repeat ((conv => whnf) <;> first | refine wI (by omega) ?_ | refine wB (by omega) ?_ | refine wR (by omega) ?_ | refine wQ (by omega) ?_ | with_reducible refine And.intro rfl ?_ | with_reducible refine And.intro (by assumption) ?_ | with_reducible refine cTe (by assumption) ?_ | with_reducible refine cFe (by assumption) ?_ | with_reducible refine cTt ?_ | with_reducible refine cNt ?_ | refine And.intro (fun hh => by cases hh) ?_ | refine And.intro (by omega) ?_ | refine cTd (by omega) ?_ | refine cFd (by omega) ?_)
    (conv => whnf)
    exact h
theorem tb_plain8_ok : Con Try.prog tb_plain8.1 tb_plain8.2 := con_tree tblqP_ok o_plain8 [.agg [.whole 0 57, .one (.var 1)]] 2 Try.func27 rfl c_plain8 aw_plain8 g_plain8
def tIs8 : Trans := fun zs Q => match zs with
  | [.ob (.pt g), .ob (.fpt h)] => Q (.bool (dec (g = h)))
  | _ => False
def tblqI : Tab := tb_paff :: tb_rpaff :: tb_is :: []
theorem tblqI_ok : tblqI.OK Try.prog := tab_cons tb_paff_ok <| tab_cons tb_rpaff_ok <| tab_cons tb_is_ok <| tab_nil _
def o_is8 : Orc := { ans := [(10, .one ⟨.leaf (.agg [.whole 0 24]), 1, []⟩), (11, .one ⟨.tup [.agg [.whole 0 8], .agg [.whole 1 8]], 2, []⟩), (15, .one ⟨.leaf (.agg [.whole 0 48]), 1, []⟩), (16, .one ⟨.tup [.agg [.whole 0 16], .agg [.whole 1 16]], 2, []⟩), (19, .one ⟨.leaf (.agg [.whole 0 8]), 1, []⟩), (20, .one ⟨.leaf (.agg [.whole 0 16]), 1, []⟩), (21, .two ⟨.leaf (.atom (.const (.bool true))), 0, []⟩ ⟨.leaf (.atom (.const (.bool false))), 0, []⟩), (23, .one ⟨.leaf (.agg [.whole 0 8]), 1, []⟩), (24, .one ⟨.leaf (.agg [.whole 0 16]), 1, []⟩), (25, .two ⟨.leaf (.atom (.const (.bool true))), 0, []⟩ ⟨.leaf (.atom (.const (.bool false))), 0, []⟩), (26, .one ⟨.leaf (.atom (.var 0)), 1, []⟩)], lps := [] }
def t_is8 : Tree :=
  .new <|
  .new <|
  .call 18 [.agg [.whole 0 24]] ([], []) (.tup [.agg [.whole 2 8], .agg [.whole 3 8]]) 2 [] <|
  .new <|
  .new <|
  .call 43 [.agg [.whole 1 48]] ([], []) (.tup [.agg [.whole 4 16], .agg [.whole 5 16]]) 2 [] <|
  .new <|
  .new <|
  .call2 44 [.agg [.whole 2 8], .agg [.whole 4 16]] ([], []) (.leaf (.atom (.const (.bool true)))) 0 [] (
    .call2 44 [.agg [.whole 3 8], .agg [.whole 5 16]] ([], []) (.leaf (.atom (.const (.bool true)))) 0 [] (
      .ret ([], []) (.leaf (.atom (.const (.bool true))))) (.leaf (.atom (.const (.bool false)))) 0 [] <|
    .ret ([], []) (.leaf (.atom (.const (.bool false))))) (.leaf (.atom (.const (.bool false)))) 0 [] <|
  .ret ([], []) (.leaf (.atom (.const (.bool false))))
theorem c_is8 : compF Try.prog Try.f11 o_is8 (Try.f11.body.getD .skip) (symIn [.agg [.whole 0 24], .agg [.whole 1 48]] Try.f11.ntmps 2) = some t_is8 := by kernel_rfl
theorem g_is8 : goodC Try.prog o_is8.ords (Try.f11.body.getD .skip) = true := by kernel_rfl
def tb_is8 : FuncId × Trans := (11, tIs8)
set_option maxRecDepth 100000 in
theorem aw_is8 : ∀ zs Q, tb_is8.2 zs Q → bindLs 0 [.agg [.whole 0 24], .agg [.whole 1 48]] zs fun ae => bif Nat.beq ae.length 2 then AWp Try.prog tblqI Q t_is8 [] ae else False := by
  intro zs Q h
  replace h : tIs8 zs Q := h
  unfold tIs8 at h
  split at h
  case h_2 => exact h.elim
  rename_i p q
  repeat ((conv => whnf) <;> first | refine wI (by omega) ?_ | refine wB (by omega) ?_ | refine wR (by omega) ?_ | refine wQ (by omega) ?_ | with_reducible refine And.intro rfl ?_ | with_reducible refine And.intro (by assumption) ?_ | with_reducible refine cTe (by assumption) ?_ | with_reducible refine cFe (by assumption) ?_ | with_reducible refine cTt ?_ | with_reducible refine cNt ?_ | refine And.intro (fun hh => by cases hh) ?_ | refine And.intro (by omega) ?_ | refine cTd (by omega) ?_ | refine cFd (by omega) ?_)
  by_cases e : p = q
  · subst e
    rw [dec_true rfl] at h
    refine cTe rfl ?_
    (conv => whnf)
    refine cTe rfl ?_
    (conv => whnf)
    exact h
  · rw [dec_false e] at h
    refine cD (fun h1 => ?_) (fun _ => ?_)
    · (conv => whnf)
      refine cFe (fun h2 => e (Ed.ext' h1 h2)) ?_
      (conv => whnf)
      exact h
    · (conv => whnf)
      exact h
theorem tb_is8_ok : Con Try.prog tb_is8.1 tb_is8.2 := con_tree tblqI_ok o_is8 [.agg [.whole 0 24], .agg [.whole 1 48]] 2 Try.func11 rfl c_is8 aw_is8 g_is8
def tblq : Tab := tb_is8 :: tb_plain8 ::  tb_rpid :: tb_rpbase ::  tb_rpadd ::    tbl8l
theorem tblq_ok : tblq.OK Try.prog := tab_cons tb_is8_ok <| tab_cons tb_plain8_ok <| tab_cons tb_rpid_ok <| tab_cons tb_rpbase_ok <| tab_cons tb_rpadd_ok <| tbl8l_ok
def o_adds : Orc := { ans := [(13, .one ⟨.leaf (.agg [.whole 0 57, .one (.var 1)]), 2, []⟩), (14, .two ⟨.tup [.agg [.whole 0 24], .atom (.const (.bool true))], 1, []⟩ ⟨.tup [.agg [.whole 0 24], .atom (.const (.bool false))], 1, []⟩), (18, .one ⟨.leaf (.agg [.whole 0 57, .one (.var 1)]), 2, []⟩), (19, .one ⟨.tup [.agg [.whole 0 24], .atom (.var 1)], 2, []⟩), (23, .one ⟨.leaf (.atom (.var 0)), 1, []⟩), (26, .one ⟨.leaf (.atom (.var 0)), 1, []⟩), (27, .one ⟨.leaf (.atom (.var 0)), 1, []⟩), (28, .one ⟨.leaf (.agg [.whole 0 57, .one (.var 1)]), 2, []⟩), (29, .one ⟨.leaf (.agg [.whole 0 48]), 1, []⟩), (30, .one ⟨.leaf (.agg [.whole 0 57, .one (.var 1)]), 2, []⟩), (31, .one ⟨.leaf (.agg [.whole 0 48]), 1, []⟩), (32, .one ⟨.leaf (.agg [.whole 0 48]), 1, []⟩), (33, .one ⟨.leaf (.agg [.whole 0 48]), 1, []⟩), (34, .one ⟨.leaf (.agg [.whole 0 48]), 1, []⟩), (35, .one ⟨.leaf (.agg [.whole 0 24]), 1, []⟩), (36, .one ⟨.leaf (.agg [.whole 0 24]), 1, []⟩), (37, .one ⟨.leaf (.agg [.whole 0 24]), 1, []⟩), (38, .one ⟨.leaf (.agg [.whole 0 48]), 1, []⟩), (39, .one ⟨.leaf (.agg [.whole 0 48]), 1, []⟩), (40, .one ⟨.leaf (.agg [.whole 0 48]), 1, []⟩), (41, .two ⟨.leaf (.atom (.const (.bool true))), 0, []⟩ ⟨.leaf (.atom (.const (.bool false))), 0, []⟩), (43, .one ⟨.leaf (.agg [.whole 0 24]), 1, []⟩), (44, .one ⟨.leaf (.agg [.whole 0 24]), 1, []⟩), (45, .one ⟨.leaf (.agg [.whole 0 48]), 1, []⟩), (46, .two ⟨.leaf (.atom (.const (.bool true))), 0, []⟩ ⟨.leaf (.atom (.const (.bool false))), 0, []⟩), (47, .one ⟨.leaf (.atom (.var 0)), 1, []⟩), (49, .one ⟨.leaf (.agg [.whole 0 24]), 1, []⟩), (50, .one ⟨.leaf (.agg [.whole 0 24]), 1, []⟩), (51, .one ⟨.leaf (.agg [.whole 0 48]), 1, []⟩), (52, .one ⟨.leaf (.agg [.whole 0 48]), 1, []⟩), (53, .one ⟨.leaf (.agg [.whole 0 48]), 1, []⟩), (54, .two ⟨.leaf (.atom (.const (.bool true))), 0, []⟩ ⟨.leaf (.atom (.const (.bool false))), 0, []⟩), (55, .one ⟨.leaf (.atom (.var 0)), 1, []⟩), (57, .one ⟨.leaf (.agg [.whole 0 24]), 1, []⟩), (58, .one ⟨.leaf (.agg [.whole 0 24]), 1, []⟩), (59, .one ⟨.leaf (.agg [.whole 0 48]), 1, []⟩), (60, .one ⟨.leaf (.agg [.whole 0 48]), 1, []⟩), (61, .two ⟨.leaf (.atom (.const (.bool true))), 0, []⟩ ⟨.leaf (.atom (.const (.bool false))), 0, []⟩), (62, .one ⟨.leaf (.atom (.var 0)), 1, []⟩), (64, .two ⟨.leaf (.atom (.const (.bool true))), 0, []⟩ ⟨.leaf (.atom (.const (.bool false))), 0, []⟩), (65, .one ⟨.leaf (.atom (.var 0)), 1, []⟩)], lps := [], ords := [(8, [.quiet 0, .quiet 1, .quiet 3, .quiet 4, .call 2 [], .call 5 [], .call 6 [], .pure 7, .quiet 8, .quiet 10, .call 9 [], .call 11 [], .quiet 12, .pure 13, .quiet 14, .quiet 16, .quiet 17, .call 15 [], .call 18 [], .call 19 [], .quiet 20, .pure 21, .quiet 22, .quiet 24, .call 23 [], .call 25 [], .call 26 [], .quiet 27, .pure 28, .call 29 [], .quiet 30, .pure 31])] }
end Go.Proofs.Ytmhpagceheekcaa
