/- Chapter 8: spots -/
import Derived.Test.YtohebkkiicbdoaaPnu
set_option linter.unusedSimpArgs false
set_option linter.unusedVariables false
namespace Go.Proofs.Ytohebkkiicbdoaa
open Go.RowKit FdP FdP.Ch
def tbl8c : Tab := tb_pbase :: tb_pid :: tb_padd :: tb_pdbl :: tb_pneg :: tb_peq :: tb_paff :: tb_pof ::  tbl8
theorem tbl8c_ok : tbl8c.OK Try.prog := tab_cons tb_pbase_ok <| tab_cons tb_pid_ok <| tab_cons tb_padd_ok <| tab_cons tb_pdbl_ok <| tab_cons tb_pneg_ok <| tab_cons tb_peq_ok <| tab_cons tb_paff_ok <| tab_cons tb_pof_ok <| tbl8_ok
def o_four : Orc := { ans := [(3, .one ⟨.leaf (.agg [.whole 0 24]), 1, []⟩), (4, .one ⟨.leaf (.agg [.whole 0 24]), 1, []⟩), (5, .one ⟨.leaf (.agg [.whole 0 24]), 1, []⟩)], lps := [] }
def t_four : Tree :=
  .new <|
  .new <|
  .call 70 [.agg [.whole 0 24]] ([], []) (.leaf (.agg [.whole 1 24])) 1 [] <|
  .call 70 [.agg [.whole 1 24]] ([], []) (.leaf (.agg [.whole 2 24])) 1 [] <|
  .ret ([], []) (.leaf (.agg [.whole 2 24]))
theorem c_four : compF Try.prog Try.f32 o_four (Try.f32.body.getD .skip) (symIn [.agg [.whole 0 24]] Try.f32.ntmps 1) = some t_four := by kernel_rfl
theorem g_four : goodC Try.prog o_four.ords (Try.f32.body.getD .skip) = true := by kernel_rfl
def tb_four : FuncId × Trans := (32, auto Try.prog tbl8c [.agg [.whole 0 24]] 1 t_four)
theorem tb_four_ok : Con Try.prog tb_four.1 tb_four.2 := con_tree tbl8c_ok o_four [.agg [.whole 0 24]] 1 Try.func32 rfl c_four (fun _ _ h => h) g_four
theorem dbl_odd {N j : Nat} {g : G} (h : N / 2 ^ j % 2 = 1) : mulG (N / 2 ^ (j + 1)) g + mulG (N / 2 ^ (j + 1)) g + g = mulG (N / 2 ^ j) g := by
  rw [half_step N j, h, mulG_add, mulG_add, mulG_one]
theorem dbl_even {N j : Nat} {g : G} (h : N / 2 ^ j % 2 = 0) : mulG (N / 2 ^ (j + 1)) g + mulG (N / 2 ^ (j + 1)) g = mulG (N / 2 ^ j) g := by
  rw [half_step N j, h, mulG_add, mulG_add, mulG_zero, G.add_zero]
end Go.Proofs.Ytohebkkiicbdoaa
