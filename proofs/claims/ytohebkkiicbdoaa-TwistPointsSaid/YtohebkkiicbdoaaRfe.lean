/- The document's powers -/
import Derived.Test.YtohebkkiicbdoaaNbi
import Derived.Test.YtohebkkiicbdoaaJ13
set_option linter.unusedSimpArgs false
set_option linter.unusedVariables false
namespace Go.Proofs.Ytohebkkiicbdoaa
open Go.RowKit FdP FdP.Ch
theorem pow_odd {N j : Nat} {x : F} (h : N / 2 ^ j % 2 = 1) : x ^ (N / 2 ^ (j + 1)) * x ^ (N / 2 ^ (j + 1)) * x = x ^ (N / 2 ^ j) := by
 conv => rhs; rw [half_step N j, h, pow_add, pow_add]
 have : x ^ 1 = x := by grind
 rw [this]
theorem pow_even {N j : Nat} {x : F} (h : N / 2 ^ j % 2 = 0) : x ^ (N / 2 ^ (j + 1)) * x ^ (N / 2 ^ (j + 1)) = x ^ (N / 2 ^ j) := by
 conv => rhs; rw [half_step N j, h, Nat.add_zero, pow_add]
def tPow : Trans := fun zs Q => match zs with
 | [a, .isl .u8 b] => (match a.fg? with
  | some x => (By b ∧ b.length ≤ 100000) ∧ Q (.fg (x ^ nval b))
  | none => False)
 | _ => False
theorem zsF {a a' : Int} {x x' : F} (h : a = a') (h' : x = x') : [AV.int .i64 a, .fg x] = [.int .i64 a', .fg x'] := by rw [h, h']
theorem fg_open {a : AV} {x : F} {β : Base} {v : Value} (h : a.fg? = some x) (hv : valR0 β a v) : valR0 β (.fg x) v := by
 obtain rfl := fg_inv h hv
 exact fg_mk x
theorem con_open1 {P : Program} {fn : FuncId} {g g' : Trans} (hc : Con P fn g) (h : ∀ a l Q, g' (a :: l) Q → ∃ x, a.fg? = some x ∧ g (.fg x :: l) Q) (h0 : ∀ Q, ¬ g' [] Q) : Con P fn g' := by
 intro w x vals zs Q hx hv hg
 cases zs with
 | nil => exact absurd hg (h0 Q)
 | cons a l =>
  obtain ⟨y, hy, hg'⟩ := h a l Q hg
  obtain ⟨v0, u0, e0, r0, q0⟩ := hv
  exact hc w x vals (.fg y :: l) Q hx ⟨v0, u0, e0, fg_open hy r0, q0⟩ hg' 
def tabPw : Tab := tb_rint :: tb_rmul :: tb_rbit :: []
theorem tabPw_ok : tabPw.OK Try.prog := tab_cons tb_rint_ok <| tab_cons tb_rmul_ok <| tab_cons tb_rbit_ok <| tab_nil _
def tPow0 : Trans := fun zs Q => match zs with
 | [.fg x, .isl .u8 b] => (By b ∧ b.length ≤ 100000) ∧ Q (.fg (x ^ nval b))
 | _ => False
def o_rpow0 : Orc := { ans := [(7, oA 16), (9, oV), (10, oV), (11, oV), (13, oB), (16, oA 16), (17, oA 16), (18, oA 16), (21, oV), (22, oB), (23, oA 16), (24, oA 16), (25, oA 16), (15, oV), (26, oA 16)], lps := [(0, [.slot 6 [.one], .blk 2 [.agg 16]])] }
def t_rpow0 : Tree :=
 .new <|
 .new <|
 .call 34 [.atom (.const (.int .i64 1))] ([], []) (.leaf (.agg [.whole 2 16])) 1 [] <|
 .new <|
 .calc (.call { callee := .builtin .len, args := #[.tmp 8], argTypes := #[22] }) 3 [(8, qv 1)] ([], []) (qv 3) 1 <|
 .calc (.binOp .mul 3 (.const (.int .i64 8)) (.tmp 9) 3) 3 [(9, qv 3)] ([], []) (qv 4) 1 <|
 .calc (.binOp .sub 3 (.tmp 10) (.const (.int .i64 1)) 3) 3 [(10, qv 4)] ([], []) (qv 5) 1 <|
 .loop [.atom (.var 5), .agg [.whole 2 16]] [.one, .agg 16] <|
 .calc2 (.binOp .geq 3 (.tmp 12) (.const (.int .i64 0)) 3) 4 [(12, qv 6)] ([], []) qT 0 (
 .call 52 [.agg [.whole 7 16], .agg [.whole 7 16]] ([], []) (.leaf (.agg [.whole 8 16])) 1 [] <|
 .call 76 [.atom (.var 1), .atom (.var 6)] ([], []) (qv 9) 1 [] <|
 .calc2 (.binOp .eql 3 (.tmp 21) (.const (.int .i64 1)) 3) 4 [(21, qv 9)] ([], []) qT 0 (
 .call 52 [.agg [.whole 8 16], .agg [.whole 0 16]] ([], []) (.leaf (.agg [.whole 10 16])) 1 [] <|
 .calc (.binOp .sub 3 (.tmp 14) (.const (.int .i64 1)) 3) 3 [(14, qv 6)] ([], []) (qv 11) 1 <|
 .again 0 [.atom (.var 11), .agg [.whole 10 16]]) qF 0 <|
 .calc (.binOp .sub 3 (.tmp 14) (.const (.int .i64 1)) 3) 3 [(14, qv 6)] ([], []) (qv 10) 1 <|
 .again 0 [.atom (.var 10), .agg [.whole 8 16]]) qF 0 <|
 .ret ([], []) (.leaf (.agg [.whole 7 16]))
theorem c_rpow0 : compF Try.prog Try.f102 o_rpow0 (Try.f102.body.getD .skip) (symIn [.agg [.whole 0 16], .atom (.var 1)] Try.f102.ntmps 2) = some t_rpow0 := by kernel_rfl
theorem g_rpow0 : goodC Try.prog o_rpow0.ords (Try.f102.body.getD .skip) = true := by kernel_rfl
def tb_rpow0 : FuncId × Trans := (102, tPow0)
set_option maxRecDepth 100000 in
theorem aw_rpow0 : ∀ zs Q, tb_rpow0.2 zs Q → bindLs 0 [.agg [.whole 0 16], .atom (.var 1)] zs fun ae => bif Nat.beq ae.length 2 then AWp Try.prog tabPw Q t_rpow0 [] ae else False := by
 intro zs Q h
 replace h : tPow0 zs Q := h
 unfold tPow0 at h
 split at h
 case h_2 => exact h.elim
 rename_i x b
 obtain ⟨⟨hb, hl⟩, h⟩ := h
 have hlt := nval_lt hb
 repeat ((conv => whnf) <;> first | refine wI (by omega) ?_ | refine wB (by omega) ?_ | with_reducible refine And.intro rfl ?_ | with_reducible refine And.intro (by assumption) ?_ | refine And.intro (fun hh => by cases hh) ?_ | refine And.intro (by omega) ?_ | refine cTd (by omega) ?_ | refine cFd (by omega) ?_)
 refine ⟨by unfold I64; omega, ?_⟩
 repeat ((conv => whnf) <;> first | refine wI (by omega) ?_ | refine wB (by omega) ?_ | with_reducible refine And.intro rfl ?_ | with_reducible refine And.intro (by assumption) ?_ | refine And.intro (fun hh => by cases hh) ?_ | refine And.intro (by omega) ?_ | refine cTd (by omega) ?_ | refine cFd (by omega) ?_)
 refine ⟨Nat, fun j zs => j ≤ 8 * b.length ∧ zs = [.int .i64 ((j : Int) - 1), .fg (x ^ (nval b / 2 ^ j))], fun j => j, 8 * b.length, ?_, ?_⟩
 ·(conv => whnf)
  refine ⟨_, Subs.refl' _, Nat.le_refl _, zsF (by omega) ?_⟩
  rw [Nat.div_eq_of_lt hlt, z_one]
  grind
 rintro j _ ⟨hj, rfl⟩
 cases j with
 | zero =>
  have e : x ^ (nval b / 2 ^ 0) = x ^ nval b := by rw [Nat.pow_zero, Nat.div_one]
  rw [← e] at h
  repeat ((conv => whnf) <;> first | refine wI (by omega) ?_ | refine wB (by omega) ?_ | with_reducible refine And.intro rfl ?_ | with_reducible refine And.intro (by assumption) ?_ | refine And.intro (fun hh => by cases hh) ?_ | refine And.intro (by omega) ?_ | refine cTd (by omega) ?_ | refine cFd (by omega) ?_)
  (conv => whnf)
  exact h
 | succ m =>
  have hbz : bitZ b (((m + 1 : Nat) : Int) - 1) = ((nval b / 2 ^ m % 2 : Nat) : Int) := by rw [show (((m + 1 : Nat) : Int) - 1) = (m : Int) by omega, bitZ_nat]
  by_cases hz : bitZ b (((m + 1 : Nat) : Int) - 1) = 1
  ·have e := pow_odd (x := x) (show nval b / 2 ^ m % 2 = 1 by omega)
   generalize x ^ (nval b / 2 ^ (m + 1)) = y at *
   repeat ((conv => whnf) <;> first | refine wI (by omega) ?_ | refine wB (by omega) ?_ | with_reducible refine And.intro rfl ?_ | with_reducible refine And.intro (by assumption) ?_ | refine And.intro (fun hh => by cases hh) ?_ | refine And.intro (by omega) ?_ | refine cTd (by omega) ?_ | refine cFd (by omega) ?_)
   refine ⟨⟨hb, by omega, by unfold I64; omega⟩, ?_⟩
   repeat ((conv => whnf) <;> first | refine wI (by omega) ?_ | refine wB (by omega) ?_ | with_reducible refine And.intro rfl ?_ | with_reducible refine And.intro (by assumption) ?_ | refine And.intro (fun hh => by cases hh) ?_ | refine And.intro (by omega) ?_ | refine cTd (by omega) ?_ | refine cFd (by omega) ?_)
   (conv => whnf)
   exact ⟨_, Subs.refl' _, m, ⟨by omega, zsF (by omega) e⟩, Nat.lt_succ_self m⟩
  ·have e := pow_even (x := x) (show nval b / 2 ^ m % 2 = 0 by have := bitZ_or b (((m + 1 : Nat) : Int) - 1); omega)
   generalize x ^ (nval b / 2 ^ (m + 1)) = y at *
   repeat ((conv => whnf) <;> first | refine wI (by omega) ?_ | refine wB (by omega) ?_ | with_reducible refine And.intro rfl ?_ | with_reducible refine And.intro (by assumption) ?_ | refine And.intro (fun hh => by cases hh) ?_ | refine And.intro (by omega) ?_ | refine cTd (by omega) ?_ | refine cFd (by omega) ?_)
   refine ⟨⟨hb, by omega, by unfold I64; omega⟩, ?_⟩
   repeat ((conv => whnf) <;> first | refine wI (by omega) ?_ | refine wB (by omega) ?_ | with_reducible refine And.intro rfl ?_ | with_reducible refine And.intro (by assumption) ?_ | refine And.intro (fun hh => by cases hh) ?_ | refine And.intro (by omega) ?_ | refine cTd (by omega) ?_ | refine cFd (by omega) ?_)
   (conv => whnf)
   exact ⟨_, Subs.refl' _, m, ⟨by omega, zsF (by omega) e⟩, Nat.lt_succ_self m⟩
theorem tb_rpow0_ok : Con Try.prog tb_rpow0.1 tb_rpow0.2 := con_tree tabPw_ok o_rpow0 [.agg [.whole 0 16], .atom (.var 1)] 2 Try.func102 rfl c_rpow0 aw_rpow0 g_rpow0
def tb_rpow : FuncId × Trans := (102, tPow)
theorem tb_rpow_ok : Con Try.prog tb_rpow.1 tb_rpow.2 := con_open1 tb_rpow0_ok (fun a l Q h => by
 replace h : tPow (a :: l) Q := h
 unfold tPow at h
 split at h
 ·rename_i a' b e
  cases e
  split at h
  ·rename_i x hx; exact ⟨x, hx, h⟩
  ·exact h.elim
 ·exact h.elim) (fun Q h => h)
def PB : List Int := rawF primeL
theorem PB_len : PB.length = 56 := rawF_len _
theorem PB_by : By PB := prime_by
def P2 : List Int := cutL (subL PB [2])
theorem P2_ok : (By P2 ∧ P2.length ≤ 1000) ∧ nval P2 = FdP.P - 2 := by decide +kernel
def tabPr : Tab := tb_rprimeD :: tb_rbyD :: []
theorem tabPr_ok : tabPr.OK Try.prog := tab_cons tb_rprimeD_ok <| tab_cons tb_rbyD_ok <| tab_nil _
def o_rprime : Orc := { ans := [(1, oA 16), (2, oV)], lps := [] }
def t_rprime : Tree :=
 .call 63 [] ([], []) (.leaf (.agg [.whole 0 16])) 1 [] <|
 .call 69 [.agg [.whole 0 16]] ([], []) (qv 1) 1 [] <|
 .ret ([], []) (qv 1)
theorem c_rprime : compF Try.prog Try.f104 o_rprime (Try.f104.body.getD .skip) (symIn [] Try.f104.ntmps 0) = some t_rprime := by kernel_rfl
theorem g_rprime : goodC Try.prog o_rprime.ords (Try.f104.body.getD .skip) = true := by kernel_rfl
def tb_rprime : FuncId × Trans := (104, tK PB)
set_option maxRecDepth 100000 in
theorem aw_rprime : ∀ zs Q, tb_rprime.2 zs Q → bindLs 0 [] zs fun ae => bif Nat.beq ae.length 0 then AWp Try.prog tabPr Q t_rprime [] ae else False := by
 intro zs Q h
 replace h : tK PB zs Q := h
 unfold tK at h
 split at h
 case h_2 => exact h.elim
 repeat ((conv => whnf) <;> first | refine wI (by omega) ?_ | with_reducible refine And.intro rfl ?_ | with_reducible refine And.intro (by assumption) ?_ | refine And.intro (fun hh => by cases hh) ?_ | refine And.intro (by omega) ?_ | refine cTd (by omega) ?_ | refine cFd (by omega) ?_)
 refine ⟨⟨rfl, primeD_dg⟩, ?_⟩
 repeat ((conv => whnf) <;> first | refine wI (by omega) ?_ | with_reducible refine And.intro rfl ?_ | with_reducible refine And.intro (by assumption) ?_ | refine And.intro (fun hh => by cases hh) ?_ | refine And.intro (by omega) ?_ | refine cTd (by omega) ?_ | refine cFd (by omega) ?_)
 (conv => whnf)
 rw [primeD_pairs]
 exact h
theorem tb_rprime_ok : Con Try.prog tb_rprime.1 tb_rprime.2 := con_tree tabPr_ok o_rprime [] 0 Try.func104 rfl c_rprime aw_rprime g_rprime
def tabIv : Tab := tb_rprime :: tb_rsub3 :: tb_rpow :: []
theorem tabIv_ok : tabIv.OK Try.prog := tab_cons tb_rprime_ok <| tab_cons tb_rsub3_ok <| tab_cons tb_rpow_ok <| tab_nil _
def tInv0 : Trans := fun zs Q => match zs with
 | [.fg x] => Q (.fg (inv x))
 | _ => False
def o_rinv0 : Orc := { ans := [(3, oA 16), (4, oV), (6, oV), (7, oA 16)], lps := [], ords := [(1, [.quiet 0, .call 1 [2], .make 2 [], .call 3 [], .call 4 [], .last 5])], rws := [5] }
def t_rinv0 : Tree :=
 .new <|
 .new <|
 .call 104 [] ([], []) (qv 1) 1 [] <|
 .mkr [.one (.const (.int .u8 2))] 1 <|
 .frz 2 3 ([([.whole 0 16], 31), ([.lit [.int .i64 0, .int .i64 0, .int .i64 0, .int .i64 0, .int .i64 0, .int .i64 0, .int .i64 0, .int .i64 0, .int .i64 0, .int .i64 0, .int .i64 0, .int .i64 0, .int .i64 0, .int .i64 0, .int .i64 0, .int .i64 0]], 31)], [⟨2, 3, 5, 1⟩]) <|
 .call 103 [.atom (.var 1), .atom (.var 2)] ([], []) (qv 4) 1 [] <|
 .call 102 [.agg [.whole 0 16], .atom (.var 4)] ([], []) (.leaf (.agg [.whole 5 16])) 1 [] <|
 .ret ([], []) (.leaf (.agg [.whole 5 16]))
theorem c_rinv0 : compF Try.prog Try.f88 o_rinv0 (Try.f88.body.getD .skip) (symIn [.agg [.whole 0 16]] Try.f88.ntmps 1) = some t_rinv0 := by kernel_rfl
theorem g_rinv0 : goodC Try.prog o_rinv0.ords (Try.f88.body.getD .skip) = true := by kernel_rfl
def tb_rinv0 : FuncId × Trans := (88, tInv0)
set_option maxRecDepth 100000 in
theorem aw_rinv0 : ∀ zs Q, tb_rinv0.2 zs Q → bindLs 0 [.agg [.whole 0 16]] zs fun ae => bif Nat.beq ae.length 1 then AWp Try.prog tabIv Q t_rinv0 [] ae else False := by
 intro zs Q h
 replace h : tInv0 zs Q := h
 unfold tInv0 at h
 split at h
 case h_2 => exact h.elim
 rename_i x
 have e : inv x = x ^ nval P2 := by rw [P2_ok.2]; rfl
 have b2 : By [2] := by intro y hy; simp only [List.mem_singleton] at hy; subst hy; omega
 have hp := PB_len
 rw [e] at h
 repeat ((conv => whnf) <;> first | refine wI (by omega) ?_ | refine wB (by omega) ?_ | with_reducible refine And.intro rfl ?_ | with_reducible refine And.intro (by assumption) ?_ | refine And.intro (fun hh => by cases hh) ?_ | refine And.intro (by omega) ?_ | refine cTd (by omega) ?_ | refine cFd (by omega) ?_)
 refine ⟨⟨PB_by, b2, by omega, by decide⟩, ?_⟩
 repeat ((conv => whnf) <;> first | refine wI (by omega) ?_ | refine wB (by omega) ?_ | with_reducible refine And.intro rfl ?_ | with_reducible refine And.intro (by assumption) ?_ | refine And.intro (fun hh => by cases hh) ?_ | refine And.intro (by omega) ?_ | refine cTd (by omega) ?_ | refine cFd (by omega) ?_)
 refine ⟨⟨P2_ok.1.1, Nat.le_trans P2_ok.1.2 (by omega)⟩, ?_⟩
 repeat ((conv => whnf) <;> first | refine wI (by omega) ?_ | refine wB (by omega) ?_ | with_reducible refine And.intro rfl ?_ | with_reducible refine And.intro (by assumption) ?_ | refine And.intro (fun hh => by cases hh) ?_ | refine And.intro (by omega) ?_ | refine cTd (by omega) ?_ | refine cFd (by omega) ?_)
 (conv => whnf)
 exact h
theorem tb_rinv0_ok : Con Try.prog tb_rinv0.1 tb_rinv0.2 := con_tree tabIv_ok o_rinv0 [.agg [.whole 0 16]] 1 Try.func88 rfl c_rinv0 aw_rinv0 g_rinv0
def tb_rinv : FuncId × Trans := (88, tF1 inv)
theorem tb_rinv_ok : Con Try.prog tb_rinv.1 tb_rinv.2 := con_open1 tb_rinv0_ok (fun a l Q h => by
 replace h : tF1 inv (a :: l) Q := h
 unfold tF1 at h
 split at h
 ·rename_i a' e
  cases e
  split at h
  ·rename_i x hx; exact ⟨x, hx, h⟩
  ·exact h.elim
 ·exact h.elim) (fun Q h => h)
end Go.Proofs.Ytohebkkiicbdoaa
