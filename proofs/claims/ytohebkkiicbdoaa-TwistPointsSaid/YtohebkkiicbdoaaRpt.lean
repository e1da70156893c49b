/- The document's points: Affine, Times, Base -/
import Derived.Test.YtohebkkiicbdoaaPnr
import Derived.Test.YtohebkkiicbdoaaRfe
set_option linter.unusedSimpArgs false
set_option linter.unusedVariables false
namespace Go.Proofs.Ytohebkkiicbdoaa
open Go.RowKit FdP FdP.Ch
def tblrA : Tab := tb_rinv :: tb_rmul :: []
theorem tblrA_ok : tblrA.OK Try.prog := tab_cons tb_rinv_ok <| tab_cons tb_rmul_ok <| tab_nil _
def o_arpaff : Orc := { ans := [(5, oV), (6, oA 16), (7, oA 16), (8, oV), (9, oA 16), (10, oA 16), (11, oA 16), (12, oV), (13, oA 16), (14, oA 16), (15, oA 16)], lps := [], ords := [(2, [.quiet 0, .quiet 1, .quiet 2, .quiet 4, .quiet 5, .quiet 6, .call 3 [], .call 7 [], .last 8, .last 9])] }
def t_arpaff : Tree :=
 .new <|
 .new <|
 .new <|
 .call 88 [.agg [.whole 2 16]] ([], []) (.leaf (.agg [.whole 3 16])) 1 [] <|
 .new <|
 .call 52 [.agg [.whole 0 16], .agg [.whole 3 16]] ([], []) (.leaf (.agg [.whole 4 16])) 1 [] <|
 .call 52 [.agg [.whole 1 16], .agg [.whole 3 16]] ([], []) (.leaf (.agg [.whole 5 16])) 1 [] <|
 .ret ([], []) (.tup [.agg [.whole 4 16], .agg [.whole 5 16]])
theorem c_arpaff : compF Try.prog Try.f51 o_arpaff (Try.f51.body.getD .skip) (symIn [.agg [.whole 0 16, .whole 1 16, .whole 2 16]] Try.f51.ntmps 3) = some t_arpaff := by kernel_rfl
theorem g_arpaff : goodC Try.prog o_arpaff.ords (Try.f51.body.getD .skip) = true := by kernel_rfl
def tb_arpaff : FuncId × Trans := (51, auto Try.prog tblrA [.agg [.whole 0 16, .whole 1 16, .whole 2 16]] 3 t_arpaff)
theorem tb_arpaff_ok : Con Try.prog tb_arpaff.1 tb_arpaff.2 := con_tree tblrA_ok o_arpaff [.agg [.whole 0 16, .whole 1 16, .whole 2 16]] 3 Try.func51 rfl c_arpaff (fun _ _ h => h) g_arpaff
theorem rep_xy {x y w : F} {g : G} (h : Rep x y w g) : x * inv w = g.x ∧ y * inv w = g.y := by
 obtain ⟨h0, h1, h2⟩ := h
 have := mul_inv h0
 rw [h1, h2]
 exact ⟨by grind, by grind⟩
def tb_rpaff : FuncId × Trans := (51, tGq AV.fpt? fun g Q => Q (.tup [.fg g.x, .fg g.y]))
theorem tb_rpaff_ok : Con Try.prog tb_rpaff.1 tb_rpaff.2 := con_Gq way_fpt tb_arpaff_ok (by
 rintro _ g Q ⟨x, y, w, rfl, p⟩ h
 obtain ⟨h1, h2⟩ := rep_xy p
 rw [← h1, ← h2] at h
 (conv => whnf)
 exact h)
def tSub (g : Trans) : Trans := fun zs Q => ∃ ys, Subs zs ys ∧ g ys Q
theorem con_tSub {P : Program} {fn : FuncId} {g : Trans} (hc : Con P fn g) : Con P fn (tSub g) := fun w x vals zs Q hx hv ⟨ys, hs, hg⟩ => hc w x vals ys Q hx (hs.ok hv) hg

def tblrT : Tab := tb_rpid :: tb_rpadd :: tb_rlen :: tb_rbit :: []
theorem tblrT_ok : tblrT.OK Try.prog := tab_cons tb_rpid_ok <| tab_cons tb_rpadd_ok <| tab_cons tb_rlen_ok <| tab_cons tb_rbit_ok <| tab_nil _
def tRTimes : Trans := fun zs Q => match zs with
 | [.isl .u8 l, .ob (.fpt g)] => (l.length ≤ 1000 ∧ By l) ∧ Q (.ob (.fpt (mulG (nval l) g)))
 | _ => False
theorem zsP {k : IntKind} {a a' : Int} {b b' : G} (h : a = a') (h' : b = b') : [AV.int k a, .ob (.fpt b)] = [.int k a', .ob (.fpt b')] := by rw [h, h']
def o_rptimes : Orc := { ans := [(7, oA 48), (9, oV), (10, oV), (12, oB), (15, oA 48), (16, oA 48), (17, oA 48), (20, oV), (21, oB), (22, oA 48), (23, oA 48), (24, oA 48), (14, oV), (25, oA 48)], lps := [(0, [.slot 6 [.one], .blk 2 [.agg 48]])] }
def t_rptimes : Tree :=
 .new <|
 .new <|
 .call 40 [] ([], []) (.leaf (.agg [.whole 2 48])) 1 [] <|
 .new <|
 .call 75 [.atom (.var 0)] ([], []) (qv 3) 1 [] <|
 .calc (.binOp .sub 3 (.tmp 9) (.const (.int .i64 1)) 3) 3 [(9, qv 3)] ([], []) (qv 4) 1 <|
 .loop [.atom (.var 4), .agg [.whole 2 48]] [.one, .agg 48] <|
 .calc2 (.binOp .geq 3 (.tmp 11) (.const (.int .i64 0)) 3) 4 [(11, qv 5)] ([], []) qT 0 (
 .call 41 [.agg [.whole 6 48], .agg [.whole 6 48]] ([], []) (.leaf (.agg [.whole 7 48])) 1 [] <|
 .call 76 [.atom (.var 0), .atom (.var 5)] ([], []) (qv 8) 1 [] <|
 .calc2 (.binOp .eql 3 (.tmp 20) (.const (.int .i64 1)) 3) 4 [(20, qv 8)] ([], []) qT 0 (
 .call 41 [.agg [.whole 7 48], .agg [.whole 1 48]] ([], []) (.leaf (.agg [.whole 9 48])) 1 [] <|
 .calc (.binOp .sub 3 (.tmp 13) (.const (.int .i64 1)) 3) 3 [(13, qv 5)] ([], []) (qv 10) 1 <|
 .again 0 [.atom (.var 10), .agg [.whole 9 48]]) qF 0 <|
 .calc (.binOp .sub 3 (.tmp 13) (.const (.int .i64 1)) 3) 3 [(13, qv 5)] ([], []) (qv 9) 1 <|
 .again 0 [.atom (.var 9), .agg [.whole 7 48]]) qF 0 <|
 .ret ([], []) (.leaf (.agg [.whole 6 48]))
theorem c_rptimes : compF Try.prog Try.f42 o_rptimes (Try.f42.body.getD .skip) (symIn [.atom (.var 0), .agg [.whole 1 48]] Try.f42.ntmps 2) = some t_rptimes := by kernel_rfl
theorem g_rptimes : goodC Try.prog o_rptimes.ords (Try.f42.body.getD .skip) = true := by kernel_rfl
def tb_rptimes : FuncId × Trans := (42, tRTimes)
set_option maxRecDepth 100000 in
theorem aw_rptimes : ∀ zs Q, tb_rptimes.2 zs Q → bindLs 0 [.atom (.var 0), .agg [.whole 1 48]] zs fun ae => bif Nat.beq ae.length 2 then AWp Try.prog tblrT Q t_rptimes [] ae else False := by
 intro zs Q h
 replace h : tRTimes zs Q := h
 unfold tRTimes at h
 split at h
 case h_2 => exact h.elim
 rename_i l g
 obtain ⟨⟨hl, hb⟩, h⟩ := h
 have hlt := lenB_lt hb
 have hle := lenB_le l
 repeat ((conv => whnf) <;> first | refine wI (by omega) ?_ | with_reducible refine And.intro rfl ?_ | with_reducible refine And.intro (by assumption) ?_ | with_reducible refine cTe (by assumption) ?_ | with_reducible refine cFe (by assumption) ?_ | with_reducible refine cTt ?_ | with_reducible refine cNt ?_ | refine And.intro (fun hh => by cases hh) ?_ | refine And.intro (by omega) ?_ | refine cTd (by omega) ?_ | refine cFd (by omega) ?_)
 refine ⟨⟨hb, by omega⟩, ?_⟩
 repeat ((conv => whnf) <;> first | refine wI (by omega) ?_ | with_reducible refine And.intro rfl ?_ | with_reducible refine And.intro (by assumption) ?_ | with_reducible refine cTe (by assumption) ?_ | with_reducible refine cFe (by assumption) ?_ | with_reducible refine cTt ?_ | with_reducible refine cNt ?_ | refine And.intro (fun hh => by cases hh) ?_ | refine And.intro (by omega) ?_ | refine cTd (by omega) ?_ | refine cFd (by omega) ?_)
 refine ⟨Nat, fun j zs => j ≤ lenB l ∧ zs = [.int .i64 ((j : Int) - 1), .ob (.fpt (mulG (nval l / 2 ^ j) g))], fun j => j, lenB l, ?_, ?_⟩
 ·(conv => whnf)
  refine ⟨_, Subs.refl' _, Nat.le_refl _, zsP (by omega) ?_⟩
  rw [Nat.div_eq_of_lt hlt, mulG_zero]
 rintro j _ ⟨hj, rfl⟩
 cases j with
 | zero =>
  have e : mulG (nval l / 2 ^ 0) g = mulG (nval l) g := by rw [Nat.pow_zero, Nat.div_one]
  rw [← e] at h
  repeat ((conv => whnf) <;> first | refine wI (by omega) ?_ | with_reducible refine And.intro rfl ?_ | with_reducible refine And.intro (by assumption) ?_ | with_reducible refine cTe (by assumption) ?_ | with_reducible refine cFe (by assumption) ?_ | with_reducible refine cTt ?_ | with_reducible refine cNt ?_ | refine And.intro (fun hh => by cases hh) ?_ | refine And.intro (by omega) ?_ | refine cTd (by omega) ?_ | refine cFd (by omega) ?_)
  (conv => whnf)
  exact h
 | succ m =>
  have hbz : bitZ l (((m + 1 : Nat) : Int) - 1) = ((nval l / 2 ^ m % 2 : Nat) : Int) := by rw [show (((m + 1 : Nat) : Int) - 1) = (m : Int) by omega, bitZ_nat]
  by_cases hz : bitZ l (((m + 1 : Nat) : Int) - 1) = 1
  ·have e := dbl_odd (g := g) (show nval l / 2 ^ m % 2 = 1 by omega)
   generalize mulG (nval l / 2 ^ (m + 1)) g = y at *
   repeat ((conv => whnf) <;> first | refine wI (by omega) ?_ | with_reducible refine And.intro rfl ?_ | with_reducible refine And.intro (by assumption) ?_ | with_reducible refine cTe (by assumption) ?_ | with_reducible refine cFe (by assumption) ?_ | with_reducible refine cTt ?_ | with_reducible refine cNt ?_ | refine And.intro (fun hh => by cases hh) ?_ | refine And.intro (by omega) ?_ | refine cTd (by omega) ?_ | refine cFd (by omega) ?_)
   refine ⟨⟨hb, by omega, by unfold I64; omega⟩, ?_⟩
   repeat ((conv => whnf) <;> first | refine wI (by omega) ?_ | with_reducible refine And.intro rfl ?_ | with_reducible refine And.intro (by assumption) ?_ | with_reducible refine cTe (by assumption) ?_ | with_reducible refine cFe (by assumption) ?_ | with_reducible refine cTt ?_ | with_reducible refine cNt ?_ | refine And.intro (fun hh => by cases hh) ?_ | refine And.intro (by omega) ?_ | refine cTd (by omega) ?_ | refine cFd (by omega) ?_)
   (conv => whnf)
   exact ⟨_, Subs.refl' _, m, ⟨by omega, zsP (by omega) e⟩, Nat.lt_succ_self m⟩
  ·have e := dbl_even (g := g) (show nval l / 2 ^ m % 2 = 0 by have := bitZ_or l (((m + 1 : Nat) : Int) - 1); omega)
   generalize mulG (nval l / 2 ^ (m + 1)) g = y at *
   repeat ((conv => whnf) <;> first | refine wI (by omega) ?_ | with_reducible refine And.intro rfl ?_ | with_reducible refine And.intro (by assumption) ?_ | with_reducible refine cTe (by assumption) ?_ | with_reducible refine cFe (by assumption) ?_ | with_reducible refine cTt ?_ | with_reducible refine cNt ?_ | refine And.intro (fun hh => by cases hh) ?_ | refine And.intro (by omega) ?_ | refine cTd (by omega) ?_ | refine cFd (by omega) ?_)
   refine ⟨⟨hb, by omega, by unfold I64; omega⟩, ?_⟩
   repeat ((conv => whnf) <;> first | refine wI (by omega) ?_ | with_reducible refine And.intro rfl ?_ | with_reducible refine And.intro (by assumption) ?_ | with_reducible refine cTe (by assumption) ?_ | with_reducible refine cFe (by assumption) ?_ | with_reducible refine cTt ?_ | with_reducible refine cNt ?_ | refine And.intro (fun hh => by cases hh) ?_ | refine And.intro (by omega) ?_ | refine cTd (by omega) ?_ | refine cFd (by omega) ?_)
   (conv => whnf)
   exact ⟨_, Subs.refl' _, m, ⟨by omega, zsP (by omega) e⟩, Nat.lt_succ_self m⟩
theorem tb_rptimes_ok : Con Try.prog tb_rptimes.1 tb_rptimes.2 := con_tree tblrT_ok o_rptimes [.atom (.var 0), .agg [.whole 1 48]] 2 Try.func42 rfl c_rptimes aw_rptimes g_rptimes
def tRDigit : Trans := fun zs Q => match zs with
 | [.int .u8 x] => ((48 ≤ x ∧ x ≤ 57) ∨ (97 ≤ x ∧ x ≤ 102)) ∧ Q (.int .i64 (hexN x))
 | _ => False
theorem hexN_bd' {x : Int} (h : (48 ≤ x ∧ x ≤ 57) ∨ (97 ≤ x ∧ x ≤ 102)) : 0 ≤ hexN x ∧ hexN x < 16 := by unfold hexN; split <;> omega
def hexB (c : List Int) : Nat → List Int
 | 0 => []
 | j + 1 => hexB c j ++ [16 * hexN (c.getD (110 - 2 * j) 0) + hexN (c.getD (111 - 2 * j) 0)]
theorem hexB_len (c : List Int) : ∀ j, (hexB c j).length = j
 | 0 => rfl
 | j + 1 => by simp [hexB, hexB_len c j]
theorem zsH {n n' : Nat} {l l' : List Int} {i i' : Int} (hn : n = n') (hl : l = l') (hi : i = i') : [AV.row n, .ints .u8 l, .int .i64 i] = [.row n', .ints .u8 l', .int .i64 i'] := by rw [hn, hl, hi]
def tHex : Trans := fun zs Q => match zs with
 | [a] => (match a.str? with
  | some s => ((strB s).length = 112 ∧ HexOK (strB s) ∧ By (hexB (strB s) 56)) ∧ Q (.fg (z (bval (hexB (strB s) 56))))
  | none => False)
 | _ => False
def o_rdigit8 : Orc := { ans := [(4, oB), (6, oV), (7, oV), (8, oV), (10, oV), (11, oV)], lps := [] }
def t_rdigit8 : Tree :=
 .calc2 (.binOp .geq 5 (.tmp 3) (.const (.int .u8 97)) 5) 4 [(3, qv 0)] ([], []) qT 0 (
 .calc (.binOp .sub 5 (.tmp 5) (.const (.int .u8 97)) 5) 5 [(5, qv 0)] ([], []) (qv 1) 1 <|
 .calc (.convert 5 3 (.tmp 6)) 3 [(6, qv 1)] ([], []) (qv 2) 1 <|
 .calc (.binOp .add 3 (.tmp 7) (.const (.int .i64 10)) 3) 3 [(7, qv 2)] ([], []) (qv 3) 1 <|
 .ret ([], []) (qv 3)) qF 0 <|
 .calc (.binOp .sub 5 (.tmp 9) (.const (.int .u8 48)) 5) 5 [(9, qv 0)] ([], []) (qv 1) 1 <|
 .calc (.convert 5 3 (.tmp 10)) 3 [(10, qv 1)] ([], []) (qv 2) 1 <|
 .ret ([], []) (qv 2)
theorem c_rdigit8 : compF Try.prog Try.f98 o_rdigit8 (Try.f98.body.getD .skip) (symIn [.atom (.var 0)] Try.f98.ntmps 1) = some t_rdigit8 := by kernel_rfl
theorem g_rdigit8 : goodC Try.prog o_rdigit8.ords (Try.f98.body.getD .skip) = true := by kernel_rfl
def tb_rdigit8 : FuncId × Trans := (98, tRDigit)
set_option maxRecDepth 100000 in
theorem aw_rdigit8 : ∀ zs Q, tb_rdigit8.2 zs Q → bindLs 0 [.atom (.var 0)] zs fun ae => bif Nat.beq ae.length 1 then AWp Try.prog tabNil Q t_rdigit8 [] ae else False := by
 intro zs Q h
 replace h : tRDigit zs Q := h
 unfold tRDigit at h
 split at h
 case h_2 => exact h.elim
 rename_i x
 obtain ⟨hx, h⟩ := h
 by_cases h97 : 97 ≤ x
 ·have e : x - 97 + 10 = hexN x := by unfold hexN; rw [if_pos h97]
  rw [← e] at h
  repeat ((conv => whnf) <;> first | refine wI (by omega) ?_ | refine wB (by omega) ?_ | with_reducible refine And.intro rfl ?_ | with_reducible refine And.intro (by assumption) ?_ | with_reducible refine cTe (by assumption) ?_ | with_reducible refine cFe (by assumption) ?_ | with_reducible refine cTt ?_ | with_reducible refine cNt ?_ | refine And.intro (fun hh => by cases hh) ?_ | refine And.intro (by omega) ?_ | refine cTd (by omega) ?_ | refine cFd (by omega) ?_)
  (conv => whnf)
  exact h
 ·have e : x - 48 = hexN x := by unfold hexN; rw [if_neg h97]
  rw [← e] at h
  repeat ((conv => whnf) <;> first | refine wI (by omega) ?_ | refine wB (by omega) ?_ | with_reducible refine And.intro rfl ?_ | with_reducible refine And.intro (by assumption) ?_ | with_reducible refine cTe (by assumption) ?_ | with_reducible refine cFe (by assumption) ?_ | with_reducible refine cTt ?_ | with_reducible refine cNt ?_ | refine And.intro (fun hh => by cases hh) ?_ | refine And.intro (by omega) ?_ | refine cTd (by omega) ?_ | refine cFd (by omega) ?_)
  (conv => whnf)
  exact h
theorem tb_rdigit8_ok : Con Try.prog tb_rdigit8.1 tb_rdigit8.2 := con_tree tabNil_ok o_rdigit8 [.atom (.var 0)] 1 Try.func98 rfl c_rdigit8 aw_rdigit8 g_rdigit8
def tblrH : Tab := tb_rdigit8 :: tb_rof :: []
theorem tblrH_ok : tblrH.OK Try.prog := tab_cons tb_rdigit8_ok <| tab_cons tb_rof_ok <| tab_nil _
def o_rhex : Orc := { ans := [(6, oV), (7, oV), (9, oB), (15, oV), (16, oV), (17, oV), (20, oV), (21, oV), (22, oV), (23, oV), (24, oV), (26, oV), (11, oV), (28, oA 16)], lps := [(0, [.row 3 5 1, .slot 4 [.one]])], ords := [(5, [.pure 0, .pure 1, .pure 2, .quiet 3, .pure 6, .pure 7, .quiet 8, .quiet 9, .call 4 [], .quiet 5, .call 10 [], .quiet 11, .quiet 12, .make 13 [], .last 14, .last 15])] }
def t_rhex : Tree :=
 .new <|
 .calc (.call { callee := .builtin .len, args := #[.tmp 5], argTypes := #[9] }) 3 [(5, qv 0)] ([], []) (qv 1) 1 <|
 .calc (.binOp .sub 3 (.tmp 6) (.const (.int .i64 2)) 3) 3 [(6, qv 1)] ([], []) (qv 2) 1 <|
 .loop [.atom (.const (.slice none 0 0)), .agg [], .atom (.var 2)] [.one, .row, .one] <|
 .calc2 (.binOp .geq 3 (.tmp 8) (.const (.int .i64 0)) 3) 4 [(8, qv 5)] ([], []) qT 0 (
 .calc (.index 9 (.tmp 13) (.tmp 14)) 5 [(13, qv 0), (14, qv 5)] ([], []) (qv 6) 1 <|
 .calc (.binOp .add 3 (.tmp 19) (.const (.int .i64 1)) 3) 3 [(19, qv 5)] ([], []) (qv 7) 1 <|
 .calc (.index 9 (.tmp 18) (.tmp 20)) 5 [(18, qv 0), (20, qv 7)] ([], []) (qv 8) 1 <|
 .call 98 [.atom (.var 6)] ([], []) (qv 9) 1 [] <|
 .calc (.binOp .mul 3 (.const (.int .i64 16)) (.tmp 16) 3) 3 [(16, qv 9)] ([], []) (qv 10) 1 <|
 .call 98 [.atom (.var 8)] ([], []) (qv 11) 1 [] <|
 .calc (.binOp .add 3 (.tmp 17) (.tmp 22) 3) 3 [(17, qv 10), (22, qv 11)] ([], []) (qv 12) 1 <|
 .calc (.convert 3 5 (.tmp 23)) 5 [(23, qv 12)] ([], []) (qv 13) 1 <|
 .new <|
 .app (some 4) [.one (.var 13)] 1 <|
 .calc (.binOp .sub 3 (.tmp 10) (.const (.int .i64 2)) 3) 3 [(10, qv 5)] ([], []) (qv 16) 1 <|
 .again 0 [.atom (.var 14), .agg [.rest 15], .atom (.var 16)]) qF 0 <|
 .frz 3 4 ([([.lit [.int .i64 0, .int .i64 0, .int .i64 0, .int .i64 0, .int .i64 0, .int .i64 0, .int .i64 0, .int .i64 0, .int .i64 0, .int .i64 0, .int .i64 0, .int .i64 0, .int .i64 0, .int .i64 0, .int .i64 0, .int .i64 0]], 31)], [⟨3, 4, 5, 1⟩]) <|
 .call 36 [.atom (.var 3)] ([], []) (.leaf (.agg [.whole 6 16])) 1 [] <|
 .ret ([], []) (.leaf (.agg [.whole 6 16]))
theorem c_rhex : compF Try.prog Try.f77 o_rhex (Try.f77.body.getD .skip) (symIn [.atom (.var 0)] Try.f77.ntmps 1) = some t_rhex := by kernel_rfl
theorem g_rhex : goodC Try.prog o_rhex.ords (Try.f77.body.getD .skip) = true := by kernel_rfl
def tb_rhex : FuncId × Trans := (77, tHex)
set_option maxRecDepth 100000 in
theorem aw_rhex : ∀ zs Q, tb_rhex.2 zs Q → bindLs 0 [.atom (.var 0)] zs fun ae => bif Nat.beq ae.length 1 then AWp Try.prog tblrH Q t_rhex [] ae else False := by
 intro zs Q h
 replace h : tHex zs Q := h
 unfold tHex at h
 split at h
 case h_2 => exact h.elim
 split at h
 case h_2 => exact h.elim
 rename_i s hs
 obtain ⟨⟨hl, hx, hb⟩, h⟩ := h
 unfold AV.str? at hs
 split at hs
 case h_2 => cases hs
 cases hs
 repeat ((conv => whnf) <;> first | refine wI (by omega) ?_ | refine wB (by omega) ?_ | with_reducible refine And.intro rfl ?_ | with_reducible refine And.intro (by assumption) ?_ | with_reducible refine cTe (by assumption) ?_ | with_reducible refine cFe (by assumption) ?_ | with_reducible refine cTt ?_ | with_reducible refine cNt ?_ | refine And.intro (fun hh => by cases hh) ?_ | refine And.intro (by omega) ?_ | refine cTd (by omega) ?_ | refine cFd (by omega) ?_)
 refine ⟨Nat, fun j zs => j ≤ 56 ∧ zs = [.row j, .ints .u8 (hexB (strB s) j), .int .i64 (110 - 2 * (j : Int))], fun j => 56 - j, 0, ?_, ?_⟩
 ·(conv => whnf)
  exact ⟨[.row 0, .ints .u8 [], .int .i64 (((strB s).length : Int) - 2)], ⟨sub_row0, sub_agg0 _, Sub.refl' _, trivial⟩, by omega, zsH rfl rfl (by omega)⟩
 rintro j _ ⟨hj, rfl⟩
 have hln := hexB_len (strB s) j
 by_cases hlt : j < 56
 ·have x1 := hx (110 - 2 * (j : Int)).toNat (by omega)
  have x2 := hx (110 - 2 * (j : Int) + 1).toNat (by omega)
  have b1 := hexN_bd' x1
  have b2 := hexN_bd' x2
  repeat ((conv => whnf) <;> first | refine wI (by omega) ?_ | refine wB (by omega) ?_ | with_reducible refine And.intro rfl ?_ | with_reducible refine And.intro (by assumption) ?_ | with_reducible refine cTe (by assumption) ?_ | with_reducible refine cFe (by assumption) ?_ | with_reducible refine cTt ?_ | with_reducible refine cNt ?_ | refine And.intro (fun hh => by cases hh) ?_ | refine And.intro (by omega) ?_ | refine cTd (by omega) ?_ | refine cFd (by omega) ?_)
  refine And.intro (by simp only [AV.size, List.length_append, List.length_singleton]; omega) ?_
  repeat ((conv => whnf) <;> first | refine wI (by omega) ?_ | refine wB (by omega) ?_ | with_reducible refine And.intro rfl ?_ | with_reducible refine And.intro (by assumption) ?_ | with_reducible refine cTe (by assumption) ?_ | with_reducible refine cFe (by assumption) ?_ | with_reducible refine cTt ?_ | with_reducible refine cNt ?_ | refine And.intro (fun hh => by cases hh) ?_ | refine And.intro (by omega) ?_ | refine cTd (by omega) ?_ | refine cFd (by omega) ?_)
  (conv => whnf)
  have e1 : (110 - 2 * (j : Int)).toNat = 110 - 2 * j := by omega
  have e2 : (110 - 2 * (j : Int) + 1).toNat = 111 - 2 * j := by omega
  rw [e1, e2]
  exact ⟨_, Subs.refl' _, j + 1, ⟨by omega, zsH (by simp [hln, AV.size]) rfl (by omega)⟩, by show 56 - (j + 1) < 56 - j; omega⟩
 ·obtain rfl : j = 56 := by omega
  generalize hexB (strB s) 56 = c at *
  repeat ((conv => whnf) <;> first | refine wI (by omega) ?_ | refine wB (by omega) ?_ | with_reducible refine And.intro rfl ?_ | with_reducible refine And.intro (by assumption) ?_ | with_reducible refine cTe (by assumption) ?_ | with_reducible refine cFe (by assumption) ?_ | with_reducible refine cTt ?_ | with_reducible refine cNt ?_ | refine And.intro (fun hh => by cases hh) ?_ | refine And.intro (by omega) ?_ | refine cTd (by omega) ?_ | refine cFd (by omega) ?_)
  refine ⟨⟨hln, hb⟩, ?_⟩
  repeat ((conv => whnf) <;> first | refine wI (by omega) ?_ | refine wB (by omega) ?_ | with_reducible refine And.intro rfl ?_ | with_reducible refine And.intro (by assumption) ?_ | with_reducible refine cTe (by assumption) ?_ | with_reducible refine cFe (by assumption) ?_ | with_reducible refine cTt ?_ | with_reducible refine cNt ?_ | refine And.intro (fun hh => by cases hh) ?_ | refine And.intro (by omega) ?_ | refine cTd (by omega) ?_ | refine cFd (by omega) ?_)
  (conv => whnf)
  exact h
theorem tb_rhex_ok : Con Try.prog tb_rhex.1 tb_rhex.2 := con_tree tblrH_ok o_rhex [.atom (.var 0)] 1 Try.func77 rfl c_rhex aw_rhex g_rhex
def tblrB : Tab := tb_rhex :: tb_rint :: []
theorem tblrB_ok : tblrB.OK Try.prog := tab_cons tb_rhex_ok <| tab_cons tb_rint_ok <| tab_nil _
def o_arpbase : Orc := { ans := [(1, oA 16), (2, oA 16), (3, oA 16)], lps := [] }
def t_arpbase : Tree :=
 .new <|
 .call 77 [.atom (.const (.string ⟨#[52, 102, 49, 57, 55, 48, 99, 54, 54, 98, 101, 100, 48, 100, 101, 100, 50, 50, 49, 100, 49, 53, 97, 54, 50, 50, 98, 102, 51, 54, 100, 97, 57, 101, 49, 52, 54, 53, 55, 48, 52, 55, 48, 102, 49, 55, 54, 55, 101, 97, 54, 100, 101, 51, 50, 52, 97, 51, 100, 51, 97, 52, 54, 52, 49, 50, 97, 101, 49, 97, 102, 55, 50, 97, 98, 54, 54, 53, 49, 49, 52, 51, 51, 98, 56, 48, 101, 49, 56, 98, 48, 48, 57, 51, 56, 101, 50, 54, 50, 54, 97, 56, 50, 98, 99, 55, 48, 99, 99, 48, 53, 101]⟩))] ([], []) (.leaf (.agg [.whole 0 16])) 1 [] <|
 .call 77 [.atom (.const (.string ⟨#[54, 57, 51, 102, 52, 54, 55, 49, 54, 101, 98, 54, 98, 99, 50, 52, 56, 56, 55, 54, 50, 48, 51, 55, 53, 54, 99, 57, 99, 55, 54, 50, 52, 98, 101, 97, 55, 51, 55, 51, 54, 99, 97, 51, 57, 56, 52, 48, 56, 55, 55, 56, 57, 99, 49, 101, 48, 53, 97, 48, 99, 50, 100, 55, 51, 97, 100, 51, 102, 102, 49, 99, 101, 54, 55, 99, 51, 57, 99, 52, 102, 100, 98, 100, 49, 51, 50, 99, 52, 101, 100, 55, 99, 56, 97, 100, 57, 56, 48, 56, 55, 57, 53, 98, 102, 50, 51, 48, 102, 97, 49, 52]⟩))] ([], []) (.leaf (.agg [.whole 1 16])) 1 [] <|
 .call 34 [.atom (.const (.int .i64 1))] ([], []) (.leaf (.agg [.whole 2 16])) 1 [] <|
 .ret ([], []) (.leaf (.agg [.whole 0 16, .whole 1 16, .whole 2 16]))
theorem c_arpbase : compF Try.prog Try.f43 o_arpbase (Try.f43.body.getD .skip) (symIn [] Try.f43.ntmps 0) = some t_arpbase := by kernel_rfl
theorem g_arpbase : goodC Try.prog o_arpbase.ords (Try.f43.body.getD .skip) = true := by kernel_rfl
def tb_arpbase : FuncId × Trans := (43, auto Try.prog tblrB [] 0 t_arpbase)
theorem tb_arpbase_ok : Con Try.prog tb_arpbase.1 tb_arpbase.2 := con_tree tblrB_ok o_arpbase [] 0 Try.func43 rfl c_arpbase (fun _ _ h => h) g_arpbase
theorem hx_ok : ((strB bxS).length = 112 ∧ HexOK (strB bxS) ∧ By (hexB (strB bxS) 56)) ∧ bval (hexB (strB bxS) 56) = bxN := by decide +kernel
theorem hy_ok : ((strB byS).length = 112 ∧ HexOK (strB byS) ∧ By (hexB (strB byS) 56)) ∧ bval (hexB (strB byS) 56) = byN := by decide +kernel
def tb_rpbase : FuncId × Trans := (43, tG0 (fun g => .ob (.fpt g)) BG)
theorem tb_rpbase_ok : Con Try.prog tb_rpbase.1 tb_rpbase.2 := con_G0 way_fpt tb_arpbase_ok (by
 (conv => whnf)
 refine ⟨hx_ok.1, ?_⟩
 (conv => whnf)
 refine ⟨hy_ok.1, ?_⟩
 (conv => whnf)
 refine ⟨⟨by decide, by decide⟩, ?_⟩
 (conv => whnf)
 refine ⟨_, _, _, rfl, ?_⟩
 have e1 := hx_ok.2
 have e2 := hy_ok.2
 exact (show ∀ a b : Int, a = bxN → b = byN → Rep (z a) (z b) (z 1) BG from fun a b ha hb => by subst ha hb; exact Rep.of BG) _ _ e1 e2)
end Go.Proofs.Ytohebkkiicbdoaa
