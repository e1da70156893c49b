/- Chapter 8: PointOf -/
import Derived.Test.YtmhpagceheekcaaPnq
set_option linter.unusedSimpArgs false
set_option linter.unusedVariables false
namespace Go.Proofs.Ytmhpagceheekcaa
open Go.RowKit FdP FdP.Ch
theorem spot_ex : ∃ f : List Int → Int → G, ∀ l n, f l n = mulG (nval l) BG + mulG (quart n) TG := ⟨_, fun _ _ => rfl⟩
/-- a spot's point: no term for the kernel to open -/
noncomputable def spotG : List Int → Int → G := spot_ex.choose
theorem spotG_eq (l : List Int) (n : Int) : spotG l n = mulG (nval l) BG + mulG (quart n) TG := spot_ex.choose_spec l n
def tMadeS : Trans := fun zs Q => match zs with
  | [.agg [.ints .u8 l, .int .i64 n]] => (l.length = 57 ∧ By l) ∧ Q (.tup [.ob (.pt (spotG l n)), .bool true])
  | _ => False
def tPlainS : Trans := fun zs Q => match zs with
  | [.agg [.ints .u8 l, .int .i64 n]] => (l.length = 57 ∧ By l) ∧ Q (.ob (.fpt (spotG l n)))
  | _ => False
theorem tMadeS_eq : tMadeS = tMade8 := by
  funext zs Q
  unfold tMadeS tMade8
  split
  · simp only [spotG_eq]
  · rename_i hn
    split
    · exact absurd rfl (hn _ _)
    · rfl
theorem tPlainS_eq : tPlainS = tPlain8 := by
  funext zs Q
  unfold tPlainS tPlain8
  split
  · simp only [spotG_eq]
  · rename_i hn
    split
    · exact absurd rfl (hn _ _)
    · rfl
def tb_madeS : FuncId × Trans := (tb_made8.1, tMadeS)
theorem tb_madeS_ok : Con Try.prog tb_madeS.1 tb_madeS.2 := by
  show Con Try.prog tb_made8.1 tMadeS
  rw [tMadeS_eq]; exact tb_made8_ok
def tb_plainS : FuncId × Trans := (tb_plain8.1, tPlainS)
theorem tb_plainS_ok : Con Try.prog tb_plainS.1 tb_plainS.2 := by
  show Con Try.prog tb_plain8.1 tPlainS
  rw [tPlainS_eq]; exact tb_plain8_ok
theorem of_ng (g : G) : -g.x * -g.x + g.y * g.y = 1 + cd * ((-g.x * -g.x) * (g.y * g.y)) := of_pt (-g)
theorem ofP_ng (g : G) : ofP (-g.x) g.y = -g := ofP_eq (-g)
def tblqS : Tab := tb_madeS :: tb_plainS :: tblq
theorem tblqS_ok : tblqS.OK Try.prog := tab_cons tb_madeS_ok <| tab_cons tb_plainS_ok <| tblq_ok
def o_pof : Orc := { ans := [(24, .one ⟨.leaf (.agg [.whole 0 56]), 1, []⟩), (25, .two ⟨.tup [.agg [.whole 0 8], .atom (.const (.bool true))], 1, []⟩ ⟨.tup [.agg [.whole 0 8], .atom (.const (.bool false))], 1, []⟩), (29, .one ⟨.leaf (.agg [.whole 0 56]), 1, []⟩), (30, .one ⟨.tup [.agg [.whole 0 8], .atom (.var 1)], 2, []⟩), (34, .one ⟨.leaf (.atom (.var 0)), 1, []⟩), (37, .one ⟨.leaf (.atom (.var 0)), 1, []⟩), (38, .one ⟨.leaf (.atom (.var 0)), 1, []⟩), (40, .one ⟨.leaf (.agg [.whole 0 8]), 1, []⟩), (41, .one ⟨.leaf (.agg [.whole 0 8]), 1, []⟩), (42, .one ⟨.tup [.agg [.whole 0 24], .atom (.var 1)], 2, []⟩), (45, .one ⟨.leaf (.agg [.whole 0 56]), 1, []⟩), (46, .one ⟨.leaf (.agg [.whole 0 16]), 1, []⟩), (47, .one ⟨.leaf (.agg [.whole 0 56]), 1, []⟩), (48, .one ⟨.leaf (.agg [.whole 0 16]), 1, []⟩), (49, .two ⟨.leaf (.atom (.const (.bool true))), 0, []⟩ ⟨.leaf (.atom (.const (.bool false))), 0, []⟩), (51, .one ⟨.leaf (.agg [.whole 0 24]), 1, []⟩), (52, .one ⟨.tup [.agg [.whole 0 8], .agg [.whole 1 8]], 2, []⟩), (56, .two ⟨.leaf (.atom (.const (.bool true))), 0, []⟩ ⟨.leaf (.atom (.const (.bool false))), 0, []⟩), (58, .one ⟨.leaf (.agg [.whole 0 8]), 1, []⟩), (59, .one ⟨.leaf (.agg [.whole 0 8]), 1, []⟩), (60, .two ⟨.leaf (.atom (.const (.bool true))), 0, []⟩ ⟨.leaf (.atom (.const (.bool false))), 0, []⟩), (61, .one ⟨.leaf (.atom (.var 0)), 1, []⟩), (62, .one ⟨.leaf (.atom (.var 0)), 1, []⟩), (64, .one ⟨.leaf (.agg [.whole 0 8]), 1, []⟩), (65, .one ⟨.leaf (.agg [.whole 0 8]), 1, []⟩), (66, .two ⟨.leaf (.atom (.const (.bool true))), 0, []⟩ ⟨.leaf (.atom (.const (.bool false))), 0, []⟩), (67, .one ⟨.leaf (.atom (.var 0)), 1, []⟩), (68, .one ⟨.leaf (.atom (.var 0)), 1, []⟩), (70, .two ⟨.leaf (.atom (.const (.bool true))), 0, []⟩ ⟨.leaf (.atom (.const (.bool false))), 0, []⟩), (72, .one ⟨.leaf (.agg [.whole 0 57, .one (.var 1)]), 2, []⟩), (73, .two ⟨.tup [.agg [.whole 0 24], .atom (.const (.bool true))], 1, []⟩ ⟨.tup [.agg [.whole 0 24], .atom (.const (.bool false))], 1, []⟩), (77, .one ⟨.leaf (.agg [.whole 0 24]), 1, []⟩), (78, .one ⟨.tup [.agg [.whole 0 8], .agg [.whole 1 8]], 2, []⟩), (82, .one ⟨.leaf (.agg [.whole 0 8]), 1, []⟩), (83, .one ⟨.leaf (.agg [.whole 0 8]), 1, []⟩), (84, .one ⟨.tup [.agg [.whole 0 24], .atom (.var 1)], 2, []⟩), (88, .one ⟨.leaf (.agg [.whole 0 8]), 1, []⟩), (89, .one ⟨.leaf (.agg [.whole 0 8]), 1, []⟩), (90, .one ⟨.leaf (.agg [.whole 0 8]), 1, []⟩), (91, .one ⟨.tup [.agg [.whole 0 24], .atom (.var 1)], 2, []⟩), (97, .two ⟨.leaf (.atom (.const (.bool true))), 0, []⟩ ⟨.leaf (.atom (.const (.bool false))), 0, []⟩), (98, .one ⟨.leaf (.atom (.var 0)), 1, []⟩), (100, .one ⟨.leaf (.agg [.whole 0 24]), 1, []⟩), (101, .one ⟨.leaf (.agg [.whole 0 24]), 1, []⟩), (102, .two ⟨.leaf (.atom (.const (.bool true))), 0, []⟩ ⟨.leaf (.atom (.const (.bool false))), 0, []⟩), (103, .one ⟨.leaf (.atom (.var 0)), 1, []⟩), (106, .two ⟨.leaf (.atom (.const (.bool true))), 0, []⟩ ⟨.leaf (.atom (.const (.bool false))), 0, []⟩), (107, .one ⟨.leaf (.atom (.var 0)), 1, []⟩), (109, .one ⟨.leaf (.agg [.whole 0 24]), 1, []⟩), (110, .one ⟨.leaf (.agg [.whole 0 24]), 1, []⟩), (111, .one ⟨.leaf (.agg [.whole 0 24]), 1, []⟩), (112, .two ⟨.leaf (.atom (.const (.bool true))), 0, []⟩ ⟨.leaf (.atom (.const (.bool false))), 0, []⟩), (113, .one ⟨.leaf (.atom (.var 0)), 1, []⟩), (115, .one ⟨.leaf (.agg [.whole 0 24]), 1, []⟩), (116, .one ⟨.leaf (.agg [.whole 0 57, .one (.var 1)]), 2, []⟩), (117, .one ⟨.leaf (.agg [.whole 0 48]), 1, []⟩), (118, .two ⟨.leaf (.atom (.const (.bool true))), 0, []⟩ ⟨.leaf (.atom (.const (.bool false))), 0, []⟩), (119, .one ⟨.leaf (.atom (.var 0)), 1, []⟩), (121, .two ⟨.leaf (.atom (.const (.bool true))), 0, []⟩ ⟨.leaf (.atom (.const (.bool false))), 0, []⟩), (122, .one ⟨.leaf (.atom (.var 0)), 1, []⟩)], lps := [], ords := [(6, [.quiet 0, .quiet 2, .call 1 [], .call 3 [], .call 4 []]), (15, [.quiet 0, .quiet 2, .call 1 [7], .call 3 [7], .pure 4, .pure 5, .pure 6, .make 7 [], .last 8, .last 9]), (16, [.pure 0, .pure 1, .pure 2, .quiet 3, .quiet 4, .pure 5, .quiet 6, .quiet 7, .call 8 [], .quiet 9, .pure 10, .pure 11, .quiet 12, .quiet 13, .pure 14, .quiet 15, .quiet 16, .call 17 [], .call 18 [], .quiet 19, .pure 20, .quiet 21, .quiet 22, .call 23 [], .call 24 [], .quiet 25, .pure 26, .call 27 [], .quiet 28, .pure 29])] }
end Go.Proofs.Ytmhpagceheekcaa
