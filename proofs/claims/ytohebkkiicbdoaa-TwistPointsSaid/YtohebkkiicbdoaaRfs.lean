/- The document's sums, shifts, roots -/
import Derived.Test.YtohebkkiicbdoaaRfe
import Derived.Test.YtohebkkiicbdoaaVr
set_option linter.unusedSimpArgs false
set_option linter.unusedVariables false
namespace Go.Proofs.Ytohebkkiicbdoaa
open Go.RowKit FdP FdP.Ch
def addB (a b : List Int) : Nat → Int × List Int
 | 0 => (0, [])
 | i + 1 => (((addB a b i).1 + a.getD i 0 + b.getD i 0) / 256, (addB a b i).2 ++ [((addB a b i).1 + a.getD i 0 + b.getD i 0) % 256])
def mxl (a b : List Int) : Nat := if a.length < b.length then b.length else a.length
def addM (a b : List Int) : Nat := if 0 < (addB a b (mxl a b)).1 then mxl a b + 1 else mxl a b
def addL (a b : List Int) : List Int := (addB a b (addM a b)).2
def shX (b : List Int) (s : Int) : Nat → Int
 | 0 => 0
 | j + 1 => 2 * shX b s j + bitZ b (s + (7 - (j : Int)))
def shB (b : List Int) (n : Int) : Nat → List Int
 | 0 => []
 | m + 1 => shB b n m ++ [shX b (8 * (m : Int) - n) 8]
def shN (b : List Int) (n : Int) : Nat := (((lenB b : Int) + n + 7) / 8).toNat
def shL (b : List Int) (n : Int) : List Int := shB b n (shN b n)
def tNegI : Trans := fun zs Q => match zs with
 | [.ints .i64 l] => (l.length = 16 ∧ 0 ≤ l.getD 0 0) ∧ Q (.bool (dec (l.getD 0 0 % 2 = 1)))
 | _ => False
def o_rnegI : Orc := { ans := [(3, oV), (4, oV), (5, oV), (6, oB)], lps := [] }
def t_rnegI : Tree :=
 .new <|
 .calc (.binOp .rem 3 (.tmp 4) (.const (.int .i64 2)) 3) 3 [(4, .leaf (.atom (.cell 0 0)))] ([], []) (qv 1) 1 <|
 .calc2 (.binOp .eql 3 (.tmp 5) (.const (.int .i64 1)) 3) 4 [(5, qv 1)] ([], []) qT 0 (
 .ret ([], []) qT) qF 0 <|
 .ret ([], []) qF
theorem c_rnegI : compF Try.prog Try.f83 o_rnegI (Try.f83.body.getD .skip) (symIn [.agg [.whole 0 16]] Try.f83.ntmps 1) = some t_rnegI := by kernel_rfl
theorem g_rnegI : goodC Try.prog o_rnegI.ords (Try.f83.body.getD .skip) = true := by kernel_rfl
def tb_rnegI : FuncId × Trans := (83, tNegI)
set_option maxRecDepth 100000 in
theorem aw_rnegI : ∀ zs Q, tb_rnegI.2 zs Q → bindLs 0 [.agg [.whole 0 16]] zs fun ae => bif Nat.beq ae.length 1 then AWp Try.prog tabNil Q t_rnegI [] ae else False := by
 intro zs Q h
 replace h : tNegI zs Q := h
 unfold tNegI at h
 split at h
 case h_2 => exact h.elim
 rename_i l
 obtain ⟨⟨hl, h0⟩, h⟩ := h
 by_cases e : l.getD 0 0 % 2 = 1
 ·rw [dec_true e] at h
  repeat ((conv => whnf) <;> first | refine wI (by omega) ?_ | refine wR (by omega) ?_ | with_reducible refine And.intro rfl ?_ | with_reducible refine And.intro (by assumption) ?_ | with_reducible refine cTe (by assumption) ?_ | with_reducible refine cFe (by assumption) ?_ | with_reducible refine cTt ?_ | with_reducible refine cNt ?_ | refine And.intro (fun hh => by cases hh) ?_ | refine And.intro (by omega) ?_ | refine cTd (by omega) ?_ | refine cFd (by omega) ?_)
  (conv => whnf)
  exact h
 ·rw [dec_false e] at h
  repeat ((conv => whnf) <;> first | refine wI (by omega) ?_ | refine wR (by omega) ?_ | with_reducible refine And.intro rfl ?_ | with_reducible refine And.intro (by assumption) ?_ | with_reducible refine cTe (by assumption) ?_ | with_reducible refine cFe (by assumption) ?_ | with_reducible refine cTt ?_ | with_reducible refine cNt ?_ | refine And.intro (fun hh => by cases hh) ?_ | refine And.intro (by omega) ?_ | refine cTd (by omega) ?_ | refine cFd (by omega) ?_)
  (conv => whnf)
  exact h
theorem tb_rnegI_ok : Con Try.prog tb_rnegI.1 tb_rnegI.2 := con_tree tabNil_ok o_rnegI [.agg [.whole 0 16]] 1 Try.func83 rfl c_rnegI aw_rnegI g_rnegI
theorem fg_ints (x : F) : Sub (.fg x) (.ints .i64 (dgs x)) := by
 intro β v hv
 obtain rfl := fg_inv (a := .fg x) rfl hv
 exact valR0.mk (a := .ints .i64 (dgs x)) rfl rfl
theorem dgs_0 (x : F) : (dgs x).getD 0 0 = (x.val : Int) % 268435456 := rfl
def tNeg5 : Trans := fun zs Q => match zs with
 | [.fg x] => Q (.bool (dec (x.val % 2 = 1)))
 | _ => False
theorem dec_iff5 {p q : Prop} (h : p ↔ q) : dec p = dec q := by
 by_cases e : p
 ·rw [dec_true e, dec_true (h.1 e)]
 ·rw [dec_false e, dec_false (fun g => e (h.2 g))]
def tb_rneg5 : FuncId × Trans := (83, tNeg5)
theorem tb_rneg5_ok : Con Try.prog tb_rneg5.1 tb_rneg5.2 := fun w x vals zs Q hx hv hg => by
 replace hg : tNeg5 zs Q := hg
 unfold tNeg5 at hg
 split at hg
 case h_2 => exact hg.elim
 rename_i a
 have hd := dgs_0 a
 refine tb_rnegI_ok w x vals [.ints .i64 (dgs a)] Q hx (Subs.ok (show Subs [.fg a] [.ints .i64 (dgs a)] from ⟨fg_ints a, trivial⟩) hv) ⟨⟨dgs_len a, by omega⟩, ?_⟩
 rw [dec_iff5 (show (dgs a).getD 0 0 % 2 = 1 ↔ a.val % 2 = 1 by omega)]
 exact hg
def A1 : List Int := cutL (addL PB [1])
def P4 : List Int := cutL (shL A1 (-2))
end Go.Proofs.Ytohebkkiicbdoaa
