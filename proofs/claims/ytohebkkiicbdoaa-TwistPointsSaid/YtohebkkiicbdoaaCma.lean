/- Spots of chapters 11 to 13 -/
import Derived.Test.YtohebkkiicbdoaaCdb
set_option linter.unusedSimpArgs false
set_option linter.unusedVariables false
namespace Go.Proofs.Ytohebkkiicbdoaa
open Go.RowKit FdP FdP.Ch
def SubF (a b : AV) : Prop := ∀ base β v, valF base β a v → valF base β b v
theorem SubF.refl' (a : AV) : SubF a a := fun _ _ _ h => h
theorem con_subF {P : Program} {fn : FuncId} {g g' : Trans} (hc : Con P fn g) (h : ∀ zs Q, g' zs Q → g zs (fun a => ∃ b, SubF a b ∧ Q b)) : Con P fn g' := fun w x vals zs Q hx hv hg =>
 (hc w x vals zs _ hx hv (h zs Q hg)).mono fun e w' ⟨v, a, e1, e2, ⟨b, hs, hq⟩, hF⟩ => ⟨v, b, e1, hs _ _ _ e2, hq, hF⟩
theorem subF_fpt {g : G} {x y : F} (hx : g.x = x) (hy : g.y = y) : SubF (.agg [.fg x, .fg y, .fg (z 1)]) (.ob (.fpt g)) := by
 subst hx hy
 intro base β v hv
 have hv' : valR0 β (.agg [.fg g.x, .fg g.y, .fg (z 1)]) v := hv
 exact (way_fpt.shuts (b := .agg [.fg g.x, .fg g.y, .fg (z 1)]) ⟨_, _, _, rfl, Rep.of g⟩ hv'.notup).2
theorem TGz_x : TG.x = z 1 ∧ TG.y = z 0 := by rw [z_one, z_zero]; exact ⟨rfl, rfl⟩
theorem T0_xy : (mulG 0 TG).x = z 0 ∧ (mulG 0 TG).y = z 1 := by rw [z_one, z_zero]; exact ⟨rfl, rfl⟩
theorem T1_xy : (mulG 1 TG).x = z 1 ∧ (mulG 1 TG).y = z 0 := by rw [mulG_one]; exact TGz_x
theorem T2_xy : (mulG 2 TG).x = z 0 ∧ (mulG 2 TG).y = -(z 1) := by
 rw [mulG_two]; obtain ⟨h1, h2⟩ := add_TG TG
 rw [h1, h2, TGz_x.1, TGz_x.2]; exact ⟨rfl, rfl⟩
theorem T3_xy : (mulG 3 TG).x = -(z 1) ∧ (mulG 3 TG).y = z 0 := by
 obtain ⟨h1, h2⟩ := add_TG (mulG 2 TG)
 have e : mulG 3 TG = mulG 2 TG + TG := rfl
 rw [e, h1, h2, T2_xy.1, T2_xy.2, z_zero]
 exact ⟨rfl, neg_zero'⟩
def tTor0 : Trans := fun zs Q => match zs with
 | [.int .i64 n] => (n = 0 → Q (.agg [.fg (z 0), .fg (z 1), .fg (z 1)])) ∧ (n = 1 → Q (.agg [.fg (z 1), .fg (z 0), .fg (z 1)])) ∧ (n = 2 → Q (.agg [.fg (z 0), .fg (-(z 1)), .fg (z 1)])) ∧ (n = 3 → Q (.agg [.fg (-(z 1)), .fg (z 0), .fg (z 1)])) ∧ 0 ≤ n ∧ n ≤ 3
 | _ => False
def tTor : Trans := fun zs Q => match zs with
 | [.int .i64 n] => (0 ≤ n ∧ n ≤ 3) ∧ Q (.ob (.fpt (mulG n.toNat TG)))
 | _ => False
theorem sg_ex : ∃ f : List Int → Int → G, ∀ l n, f l n = mulG (nval l) BG + mulG n.toNat TG := ⟨_, fun _ _ => rfl⟩
noncomputable def sgG : List Int → Int → G := sg_ex.choose
theorem sgG_eq (l : List Int) (n : Int) : sgG l n = mulG (nval l) BG + mulG n.toNat TG := sg_ex.choose_spec l n
def tMade11 : Trans := fun zs Q => match zs with
 | [.agg [.isl .u8 l, .int .i64 n]] => By l ∧ (¬ (l.length ≤ 57 ∧ 0 ≤ n ∧ n ≤ 3) → Q (.tup [.ob (.pt 0), .ob (.fpt 0), .bool false])) ∧ (l.length ≤ 57 → 0 ≤ n → n ≤ 3 → Q (.tup [.ob (.pt (sgG l n)), .ob (.fpt (sgG l n)), .bool true]))
 | _ => False
def tBE11 : Trans := fun zs Q => match zs with
 | [.isl .u8 a, .isl .u8 b] => (a.length ≤ 100000 ∧ b.length ≤ 100000) ∧ (a = b → Q (.bool true)) ∧ (¬ a = b → Q (.bool false))
 | _ => False
theorem take_step {a b : List Int} {i : Nat} (h : a.take i = b.take i) (hi : i < a.length) (hb : i < b.length) (he : a.getD i 0 = b.getD i 0) : a.take (i + 1) = b.take (i + 1) := by
 rw [List.take_add_one, List.take_add_one, h]
 congr 1
 simp only [List.getD, List.getElem?_eq_getElem hi, List.getElem?_eq_getElem hb, Option.getD_some] at he ⊢
 rw [he]
theorem bl_step {i i' : Int} (h : i = i') : [AV.bool false, .int .i64 i] = [.bool false, .int .i64 i'] := by rw [h]
def tcA : Tab := tb_rint :: tb_rneg :: []
theorem tcA_ok : tcA.OK Try.prog := tab_cons tb_rint_ok <| tab_cons tb_rneg_ok <| tab_nil _
def o_tor0 : Orc := { ans := [(5, oA 16), (6, oA 16), (9, oB), (10, oA 16), (11, oA 16), (12, oA 16), (15, oB), (16, oA 16), (17, oA 16), (18, oA 16), (19, oA 16), (22, oB), (23, oA 16), (24, oA 16), (25, oA 16), (26, oA 16), (28, oA 16), (29, oA 16), (30, oA 16)], lps := [], ords := [(7, [.quiet 0, .quiet 1, .quiet 3, .call 2 [], .pure 4, .last 5]), (9, [.quiet 0, .quiet 2, .quiet 3, .call 1 [], .pure 4, .last 5])] }
def t_tor0 : Tree :=
 .new <|
 .call 34 [.atom (.const (.int .i64 1))] ([], []) (.leaf (.agg [.whole 1 16])) 1 [] <|
 .new <|
 .call 34 [.atom (.const (.int .i64 0))] ([], []) (.leaf (.agg [.whole 2 16])) 1 [] <|
 .new <|
 .calc2 (.binOp .eql 3 (.tmp 7) (.const (.int .i64 1)) 3) 4 [(7, qv 0)] ([], []) qT 0 (
 .ret ([], []) (.leaf (.agg [.whole 1 16, .whole 2 16, .whole 1 16]))) qF 0 <|
 .calc2 (.binOp .eql 3 (.tmp 7) (.const (.int .i64 2)) 3) 4 [(7, qv 0)] ([], []) qT 0 (
 .call 21 [.agg [.whole 1 16]] ([], []) (.leaf (.agg [.whole 3 16])) 1 [] <|
 .ret ([], []) (.leaf (.agg [.whole 2 16, .whole 3 16, .whole 1 16]))) qF 0 <|
 .calc2 (.binOp .eql 3 (.tmp 7) (.const (.int .i64 3)) 3) 4 [(7, qv 0)] ([], []) qT 0 (
 .call 21 [.agg [.whole 1 16]] ([], []) (.leaf (.agg [.whole 3 16])) 1 [] <|
 .ret ([], []) (.leaf (.agg [.whole 3 16, .whole 2 16, .whole 1 16]))) qF 0 <|
 .ret ([], []) (.leaf (.agg [.whole 2 16, .whole 1 16, .whole 1 16]))
theorem c_tor0 : compF Try.prog Try.f44 o_tor0 (Try.f44.body.getD .skip) (symIn [.atom (.var 0)] Try.f44.ntmps 1) = some t_tor0 := by kernel_rfl
theorem g_tor0 : goodC Try.prog o_tor0.ords (Try.f44.body.getD .skip) = true := by kernel_rfl
def tb_tor0 : FuncId × Trans := (44, tTor0)
set_option maxRecDepth 100000 in
theorem aw_tor0 : ∀ zs Q, tb_tor0.2 zs Q → bindLs 0 [.atom (.var 0)] zs fun ae => bif Nat.beq ae.length 1 then AWp Try.prog tcA Q t_tor0 [] ae else False := by
 intro zs Q h
 replace h : tTor0 zs Q := h
 unfold tTor0 at h
 split at h
 case h_2 => exact h.elim
 rename_i n
 obtain ⟨h0, h1, h2, h3, hn⟩ := h
 have i1 : I64 1 := by unfold I64; omega
 have i0 : I64 0 := by unfold I64; omega
 rcases (by omega : n = 0 ∨ n = 1 ∨ n = 2 ∨ n = 3) with rfl | rfl | rfl | rfl
 ·have h := h0 rfl
  repeat ((conv => whnf) <;> first | exact rfl | refine wI (by omega) ?_ | with_reducible refine And.intro rfl ?_ | with_reducible refine And.intro (by assumption) ?_ | with_reducible refine cTe (by assumption) ?_ | with_reducible refine cFe (by assumption) ?_ | with_reducible refine cN (cTe (by assumption) ?_) | with_reducible refine cN (cFe (by assumption) ?_) | with_reducible refine cTe rfl ?_ | with_reducible refine cEq (by assumption) ?_ | with_reducible refine cTt ?_ | with_reducible refine cNt ?_ | with_reducible refine cF (Eq.refl false) ?_ | refine And.intro (Eq.refl true) ?_ | refine And.intro (by omega) ?_ | refine cTd (by omega) ?_ | refine cFd (by omega) ?_ | refine cN (cTd (by omega) ?_) | refine cN (cFd (by omega) ?_) | refine And.intro (by simp only [AV.size, Nat.div_one, List.length_append, List.length_singleton]; omega) ?_)
  (conv => whnf)
  exact h
 ·have h := h1 rfl
  repeat ((conv => whnf) <;> first | exact rfl | refine wI (by omega) ?_ | with_reducible refine And.intro rfl ?_ | with_reducible refine And.intro (by assumption) ?_ | with_reducible refine cTe (by assumption) ?_ | with_reducible refine cFe (by assumption) ?_ | with_reducible refine cN (cTe (by assumption) ?_) | with_reducible refine cN (cFe (by assumption) ?_) | with_reducible refine cTe rfl ?_ | with_reducible refine cEq (by assumption) ?_ | with_reducible refine cTt ?_ | with_reducible refine cNt ?_ | with_reducible refine cF (Eq.refl false) ?_ | refine And.intro (Eq.refl true) ?_ | refine And.intro (by omega) ?_ | refine cTd (by omega) ?_ | refine cFd (by omega) ?_ | refine cN (cTd (by omega) ?_) | refine cN (cFd (by omega) ?_) | refine And.intro (by simp only [AV.size, Nat.div_one, List.length_append, List.length_singleton]; omega) ?_)
  (conv => whnf)
  exact h
 ·have h := h2 rfl
  repeat ((conv => whnf) <;> first | exact rfl | refine wI (by omega) ?_ | with_reducible refine And.intro rfl ?_ | with_reducible refine And.intro (by assumption) ?_ | with_reducible refine cTe (by assumption) ?_ | with_reducible refine cFe (by assumption) ?_ | with_reducible refine cN (cTe (by assumption) ?_) | with_reducible refine cN (cFe (by assumption) ?_) | with_reducible refine cTe rfl ?_ | with_reducible refine cEq (by assumption) ?_ | with_reducible refine cTt ?_ | with_reducible refine cNt ?_ | with_reducible refine cF (Eq.refl false) ?_ | refine And.intro (Eq.refl true) ?_ | refine And.intro (by omega) ?_ | refine cTd (by omega) ?_ | refine cFd (by omega) ?_ | refine cN (cTd (by omega) ?_) | refine cN (cFd (by omega) ?_) | refine And.intro (by simp only [AV.size, Nat.div_one, List.length_append, List.length_singleton]; omega) ?_)
  (conv => whnf)
  exact h
 ·have h := h3 rfl
  repeat ((conv => whnf) <;> first | exact rfl | refine wI (by omega) ?_ | with_reducible refine And.intro rfl ?_ | with_reducible refine And.intro (by assumption) ?_ | with_reducible refine cTe (by assumption) ?_ | with_reducible refine cFe (by assumption) ?_ | with_reducible refine cN (cTe (by assumption) ?_) | with_reducible refine cN (cFe (by assumption) ?_) | with_reducible refine cTe rfl ?_ | with_reducible refine cEq (by assumption) ?_ | with_reducible refine cTt ?_ | with_reducible refine cNt ?_ | with_reducible refine cF (Eq.refl false) ?_ | refine And.intro (Eq.refl true) ?_ | refine And.intro (by omega) ?_ | refine cTd (by omega) ?_ | refine cFd (by omega) ?_ | refine cN (cTd (by omega) ?_) | refine cN (cFd (by omega) ?_) | refine And.intro (by simp only [AV.size, Nat.div_one, List.length_append, List.length_singleton]; omega) ?_)
  (conv => whnf)
  exact h
theorem tb_tor0_ok : Con Try.prog tb_tor0.1 tb_tor0.2 := con_tree tcA_ok o_tor0 [.atom (.var 0)] 1 Try.func44 rfl c_tor0 aw_tor0 g_tor0
def tb_tor : FuncId × Trans := (tb_tor0.1, tTor)
theorem tb_tor_ok : Con Try.prog tb_tor.1 tb_tor.2 := con_subF tb_tor0_ok (by
 intro zs Q h
 replace h : tTor zs Q := h
 unfold tTor at h
 split at h
 case h_2 => exact h.elim
 rename_i n
 obtain ⟨hn, h⟩ := h
 refine ⟨fun e => ?_, fun e => ?_, fun e => ?_, fun e => ?_, hn⟩
 ·subst e; exact ⟨_, subF_fpt T0_xy.1 T0_xy.2, h⟩
 ·subst e; exact ⟨_, subF_fpt T1_xy.1 T1_xy.2, h⟩
 ·subst e; exact ⟨_, subF_fpt T2_xy.1 T2_xy.2, h⟩
 ·subst e; exact ⟨_, subF_fpt T3_xy.1 T3_xy.2, h⟩)
def tcB : Tab := tb_pid :: tb_rpid :: tb_rpbase :: tb_rptimes :: tb_tor :: tb_rpadd :: tb_renc :: tb_decP :: []
theorem tcB_ok : tcB.OK Try.prog := tab_cons tb_pid_ok <| tab_cons tb_rpid_ok <| tab_cons tb_rpbase_ok <| tab_cons tb_rptimes_ok <| tab_cons tb_tor_ok <| tab_cons tb_rpadd_ok <| tab_cons tb_renc_ok <| tab_cons tb_decP_ok <| tab_nil _
def o_made11 : Orc := { ans := [(8, oV), (9, oV), (10, oV), (11, oB), (13, oV), (14, oV), (15, oB), (16, oV), (18, oV), (19, oV), (20, oB), (21, oV), (22, oA 24), (23, oA 48), (24, oV), (25, oV), (26, oA 48), (27, oA 48), (28, oV), (29, oV), (30, oA 48), (31, oA 48), (33, oA 48), (34, oV), (35, .one ⟨.tup [.agg [.whole 0 24], .atom (.var 1)], 2, []⟩), (38, oA 24), (39, oA 48), (41, oB)], lps := [], ords := [(3, [.quiet 0, .quiet 1, .quiet 4, .quiet 5, .call 2 [8], .call 3 [8], .call 6 [8], .call 7 [8], .make 8 [], .last 9])], alls := [5] }
def t_made11 : Tree :=
 .new <|
 .new <|
 .new <|
 .calc (.call { callee := .builtin .len, args := #[.tmp 9], argTypes := #[22] }) 3 [(9, qv 0)] ([], []) (qv 2) 1 <|
 .calc2 (.binOp .gtr 3 (.tmp 10) (.const (.int .i64 57)) 3) 4 [(10, qv 2)] ([], []) qT 0 (
 .call 38 [] ([], []) (.leaf (.agg [.whole 3 24])) 1 [] <|
 .call 40 [] ([], []) (.leaf (.agg [.whole 4 48])) 1 [] <|
 .ret ([], []) (.tup [.agg [.whole 3 24], .agg [.whole 4 48], .atom (.const (.bool false))])) qF 0 <|
 .calc2 (.binOp .lss 3 (.tmp 14) (.const (.int .i64 0)) 3) 4 [(14, qv 1)] ([], []) qT 0 (
 .call 38 [] ([], []) (.leaf (.agg [.whole 3 24])) 1 [] <|
 .call 40 [] ([], []) (.leaf (.agg [.whole 4 48])) 1 [] <|
 .ret ([], []) (.tup [.agg [.whole 3 24], .agg [.whole 4 48], .atom (.const (.bool false))])) qF 0 <|
 .calc2 (.binOp .gtr 3 (.tmp 19) (.const (.int .i64 3)) 3) 4 [(19, qv 1)] ([], []) qT 0 (
 .call 38 [] ([], []) (.leaf (.agg [.whole 3 24])) 1 [] <|
 .call 40 [] ([], []) (.leaf (.agg [.whole 4 48])) 1 [] <|
 .ret ([], []) (.tup [.agg [.whole 3 24], .agg [.whole 4 48], .atom (.const (.bool false))])) qF 0 <|
 .call 43 [] ([], []) (.leaf (.agg [.whole 3 48])) 1 [] <|
 .call 42 [.atom (.var 0), .agg [.whole 3 48]] ([], []) (.leaf (.agg [.whole 4 48])) 1 [] <|
 .call 44 [.atom (.var 1)] ([], []) (.leaf (.agg [.whole 5 48])) 1 [] <|
 .call 41 [.agg [.whole 4 48], .agg [.whole 5 48]] ([], []) (.leaf (.agg [.whole 6 48])) 1 [] <|
 .new <|
 .call 46 [.agg [.whole 6 48]] ([], []) (qv 7) 1 [] <|
 .call 45 [.atom (.var 7)] ([], []) (.tup [.agg [.whole 8 24], .atom (.var 9)]) 2 [] <|
 .new <|
 .both (
 .both (
 .both (
 .both (
 .calc2 (.binOp .eql 49 (.tmp 40) (.const (.int .i64 0)) 49) 4 [(40, qv 9)] ([], []) qT 0 (
 .ret ([], []) (.tup [.agg [.whole 8 24], .agg [.whole 6 48], .atom (.const (.bool true))])) qF 0 <|
 .ret ([], []) (.tup [.agg [.whole 8 24], .agg [.whole 6 48], .atom (.const (.bool false))])) <|
 .both (
 .calc2 (.binOp .eql 49 (.tmp 40) (.const (.int .i64 0)) 49) 4 [(40, qv 9)] ([], []) qT 0 (
 .ret ([], []) (.tup [.agg [.whole 8 24], .agg [.whole 6 48], .atom (.const (.bool true))])) qF 0 <|
 .ret ([], []) (.tup [.agg [.whole 8 24], .agg [.whole 6 48], .atom (.const (.bool false))])) <|
 .calc2 (.binOp .eql 49 (.tmp 40) (.const (.int .i64 0)) 49) 4 [(40, qv 9)] ([], []) qT 0 (
 .ret ([], []) (.tup [.agg [.whole 8 24], .agg [.whole 6 48], .atom (.const (.bool true))])) qF 0 <|
 .ret ([], []) (.tup [.agg [.whole 8 24], .agg [.whole 6 48], .atom (.const (.bool false))])) <|
 .both (
 .both (
 .calc2 (.binOp .eql 49 (.tmp 40) (.const (.int .i64 0)) 49) 4 [(40, qv 9)] ([], []) qT 0 (
 .ret ([], []) (.tup [.agg [.whole 8 24], .agg [.whole 6 48], .atom (.const (.bool true))])) qF 0 <|
 .ret ([], []) (.tup [.agg [.whole 8 24], .agg [.whole 6 48], .atom (.const (.bool false))])) <|
 .calc2 (.binOp .eql 49 (.tmp 40) (.const (.int .i64 0)) 49) 4 [(40, qv 9)] ([], []) qT 0 (
 .ret ([], []) (.tup [.agg [.whole 8 24], .agg [.whole 6 48], .atom (.const (.bool true))])) qF 0 <|
 .ret ([], []) (.tup [.agg [.whole 8 24], .agg [.whole 6 48], .atom (.const (.bool false))])) <|
 .calc2 (.binOp .eql 49 (.tmp 40) (.const (.int .i64 0)) 49) 4 [(40, qv 9)] ([], []) qT 0 (
 .ret ([], []) (.tup [.agg [.whole 8 24], .agg [.whole 6 48], .atom (.const (.bool true))])) qF 0 <|
 .ret ([], []) (.tup [.agg [.whole 8 24], .agg [.whole 6 48], .atom (.const (.bool false))])) <|
 .both (
 .both (
 .both (
 .calc2 (.binOp .eql 49 (.tmp 40) (.const (.int .i64 0)) 49) 4 [(40, qv 9)] ([], []) qT 0 (
 .ret ([], []) (.tup [.agg [.whole 8 24], .agg [.whole 6 48], .atom (.const (.bool true))])) qF 0 <|
 .ret ([], []) (.tup [.agg [.whole 8 24], .agg [.whole 6 48], .atom (.const (.bool false))])) <|
 .both (
 .calc2 (.binOp .eql 49 (.tmp 40) (.const (.int .i64 0)) 49) 4 [(40, qv 9)] ([], []) qT 0 (
 .ret ([], []) (.tup [.agg [.whole 8 24], .agg [.whole 6 48], .atom (.const (.bool true))])) qF 0 <|
 .ret ([], []) (.tup [.agg [.whole 8 24], .agg [.whole 6 48], .atom (.const (.bool false))])) <|
 .calc2 (.binOp .eql 49 (.tmp 40) (.const (.int .i64 0)) 49) 4 [(40, qv 9)] ([], []) qT 0 (
 .ret ([], []) (.tup [.agg [.whole 8 24], .agg [.whole 6 48], .atom (.const (.bool true))])) qF 0 <|
 .ret ([], []) (.tup [.agg [.whole 8 24], .agg [.whole 6 48], .atom (.const (.bool false))])) <|
 .both (
 .calc2 (.binOp .eql 49 (.tmp 40) (.const (.int .i64 0)) 49) 4 [(40, qv 9)] ([], []) qT 0 (
 .both (
 .ret ([], []) (.tup [.agg [.whole 8 24], .agg [.whole 6 48], .atom (.const (.bool true))])) <|
 .ret ([], []) (.tup [.agg [.whole 8 24], .agg [.whole 6 48], .atom (.const (.bool true))])) qF 0 <|
 .both (
 .ret ([], []) (.tup [.agg [.whole 8 24], .agg [.whole 6 48], .atom (.const (.bool false))])) <|
 .ret ([], []) (.tup [.agg [.whole 8 24], .agg [.whole 6 48], .atom (.const (.bool false))])) <|
 .both (
 .both (
 .calc2 (.binOp .eql 49 (.tmp 40) (.const (.int .i64 0)) 49) 4 [(40, qv 9)] ([], []) qT 0 (
 .ret ([], []) (.tup [.agg [.whole 8 24], .agg [.whole 6 48], .atom (.const (.bool true))])) qF 0 <|
 .ret ([], []) (.tup [.agg [.whole 8 24], .agg [.whole 6 48], .atom (.const (.bool false))])) <|
 .calc2 (.binOp .eql 49 (.tmp 40) (.const (.int .i64 0)) 49) 4 [(40, qv 9)] ([], []) qT 0 (
 .ret ([], []) (.tup [.agg [.whole 8 24], .agg [.whole 6 48], .atom (.const (.bool true))])) qF 0 <|
 .ret ([], []) (.tup [.agg [.whole 8 24], .agg [.whole 6 48], .atom (.const (.bool false))])) <|
 .calc2 (.binOp .eql 49 (.tmp 40) (.const (.int .i64 0)) 49) 4 [(40, qv 9)] ([], []) qT 0 (
 .ret ([], []) (.tup [.agg [.whole 8 24], .agg [.whole 6 48], .atom (.const (.bool true))])) qF 0 <|
 .ret ([], []) (.tup [.agg [.whole 8 24], .agg [.whole 6 48], .atom (.const (.bool false))])) <|
 .both (
 .both (
 .both (
 .calc2 (.binOp .eql 49 (.tmp 40) (.const (.int .i64 0)) 49) 4 [(40, qv 9)] ([], []) qT 0 (
 .ret ([], []) (.tup [.agg [.whole 8 24], .agg [.whole 6 48], .atom (.const (.bool true))])) qF 0 <|
 .ret ([], []) (.tup [.agg [.whole 8 24], .agg [.whole 6 48], .atom (.const (.bool false))])) <|
 .calc2 (.binOp .eql 49 (.tmp 40) (.const (.int .i64 0)) 49) 4 [(40, qv 9)] ([], []) qT 0 (
 .ret ([], []) (.tup [.agg [.whole 8 24], .agg [.whole 6 48], .atom (.const (.bool true))])) qF 0 <|
 .ret ([], []) (.tup [.agg [.whole 8 24], .agg [.whole 6 48], .atom (.const (.bool false))])) <|
 .calc2 (.binOp .eql 49 (.tmp 40) (.const (.int .i64 0)) 49) 4 [(40, qv 9)] ([], []) qT 0 (
 .ret ([], []) (.tup [.agg [.whole 8 24], .agg [.whole 6 48], .atom (.const (.bool true))])) qF 0 <|
 .ret ([], []) (.tup [.agg [.whole 8 24], .agg [.whole 6 48], .atom (.const (.bool false))])) <|
 .both (
 .both (
 .calc2 (.binOp .eql 49 (.tmp 40) (.const (.int .i64 0)) 49) 4 [(40, qv 9)] ([], []) qT 0 (
 .ret ([], []) (.tup [.agg [.whole 8 24], .agg [.whole 6 48], .atom (.const (.bool true))])) qF 0 <|
 .ret ([], []) (.tup [.agg [.whole 8 24], .agg [.whole 6 48], .atom (.const (.bool false))])) <|
 .calc2 (.binOp .eql 49 (.tmp 40) (.const (.int .i64 0)) 49) 4 [(40, qv 9)] ([], []) qT 0 (
 .ret ([], []) (.tup [.agg [.whole 8 24], .agg [.whole 6 48], .atom (.const (.bool true))])) qF 0 <|
 .ret ([], []) (.tup [.agg [.whole 8 24], .agg [.whole 6 48], .atom (.const (.bool false))])) <|
 .calc2 (.binOp .eql 49 (.tmp 40) (.const (.int .i64 0)) 49) 4 [(40, qv 9)] ([], []) qT 0 (
 .ret ([], []) (.tup [.agg [.whole 8 24], .agg [.whole 6 48], .atom (.const (.bool true))])) qF 0 <|
 .ret ([], []) (.tup [.agg [.whole 8 24], .agg [.whole 6 48], .atom (.const (.bool false))])) <|
 .both (
 .both (
 .both (
 .both (
 .calc2 (.binOp .eql 49 (.tmp 40) (.const (.int .i64 0)) 49) 4 [(40, qv 9)] ([], []) qT 0 (
 .ret ([], []) (.tup [.agg [.whole 8 24], .agg [.whole 6 48], .atom (.const (.bool true))])) qF 0 <|
 .ret ([], []) (.tup [.agg [.whole 8 24], .agg [.whole 6 48], .atom (.const (.bool false))])) <|
 .both (
 .calc2 (.binOp .eql 49 (.tmp 40) (.const (.int .i64 0)) 49) 4 [(40, qv 9)] ([], []) qT 0 (
 .ret ([], []) (.tup [.agg [.whole 8 24], .agg [.whole 6 48], .atom (.const (.bool true))])) qF 0 <|
 .ret ([], []) (.tup [.agg [.whole 8 24], .agg [.whole 6 48], .atom (.const (.bool false))])) <|
 .calc2 (.binOp .eql 49 (.tmp 40) (.const (.int .i64 0)) 49) 4 [(40, qv 9)] ([], []) qT 0 (
 .ret ([], []) (.tup [.agg [.whole 8 24], .agg [.whole 6 48], .atom (.const (.bool true))])) qF 0 <|
 .ret ([], []) (.tup [.agg [.whole 8 24], .agg [.whole 6 48], .atom (.const (.bool false))])) <|
 .both (
 .both (
 .calc2 (.binOp .eql 49 (.tmp 40) (.const (.int .i64 0)) 49) 4 [(40, qv 9)] ([], []) qT 0 (
 .ret ([], []) (.tup [.agg [.whole 8 24], .agg [.whole 6 48], .atom (.const (.bool true))])) qF 0 <|
 .ret ([], []) (.tup [.agg [.whole 8 24], .agg [.whole 6 48], .atom (.const (.bool false))])) <|
 .calc2 (.binOp .eql 49 (.tmp 40) (.const (.int .i64 0)) 49) 4 [(40, qv 9)] ([], []) qT 0 (
 .ret ([], []) (.tup [.agg [.whole 8 24], .agg [.whole 6 48], .atom (.const (.bool true))])) qF 0 <|
 .ret ([], []) (.tup [.agg [.whole 8 24], .agg [.whole 6 48], .atom (.const (.bool false))])) <|
 .calc2 (.binOp .eql 49 (.tmp 40) (.const (.int .i64 0)) 49) 4 [(40, qv 9)] ([], []) qT 0 (
 .ret ([], []) (.tup [.agg [.whole 8 24], .agg [.whole 6 48], .atom (.const (.bool true))])) qF 0 <|
 .ret ([], []) (.tup [.agg [.whole 8 24], .agg [.whole 6 48], .atom (.const (.bool false))])) <|
 .both (
 .both (
 .calc2 (.binOp .eql 49 (.tmp 40) (.const (.int .i64 0)) 49) 4 [(40, qv 9)] ([], []) qT 0 (
 .ret ([], []) (.tup [.agg [.whole 8 24], .agg [.whole 6 48], .atom (.const (.bool true))])) qF 0 <|
 .ret ([], []) (.tup [.agg [.whole 8 24], .agg [.whole 6 48], .atom (.const (.bool false))])) <|
 .both (
 .calc2 (.binOp .eql 49 (.tmp 40) (.const (.int .i64 0)) 49) 4 [(40, qv 9)] ([], []) qT 0 (
 .ret ([], []) (.tup [.agg [.whole 8 24], .agg [.whole 6 48], .atom (.const (.bool true))])) qF 0 <|
 .ret ([], []) (.tup [.agg [.whole 8 24], .agg [.whole 6 48], .atom (.const (.bool false))])) <|
 .calc2 (.binOp .eql 49 (.tmp 40) (.const (.int .i64 0)) 49) 4 [(40, qv 9)] ([], []) qT 0 (
 .ret ([], []) (.tup [.agg [.whole 8 24], .agg [.whole 6 48], .atom (.const (.bool true))])) qF 0 <|
 .ret ([], []) (.tup [.agg [.whole 8 24], .agg [.whole 6 48], .atom (.const (.bool false))])) <|
 .calc2 (.binOp .eql 49 (.tmp 40) (.const (.int .i64 0)) 49) 4 [(40, qv 9)] ([], []) qT 0 (
 .ret ([], []) (.tup [.agg [.whole 8 24], .agg [.whole 6 48], .atom (.const (.bool true))])) qF 0 <|
 .ret ([], []) (.tup [.agg [.whole 8 24], .agg [.whole 6 48], .atom (.const (.bool false))])) <|
 .both (
 .both (
 .both (
 .calc2 (.binOp .eql 49 (.tmp 40) (.const (.int .i64 0)) 49) 4 [(40, qv 9)] ([], []) qT 0 (
 .ret ([], []) (.tup [.agg [.whole 8 24], .agg [.whole 6 48], .atom (.const (.bool true))])) qF 0 <|
 .ret ([], []) (.tup [.agg [.whole 8 24], .agg [.whole 6 48], .atom (.const (.bool false))])) <|
 .both (
 .calc2 (.binOp .eql 49 (.tmp 40) (.const (.int .i64 0)) 49) 4 [(40, qv 9)] ([], []) qT 0 (
 .ret ([], []) (.tup [.agg [.whole 8 24], .agg [.whole 6 48], .atom (.const (.bool true))])) qF 0 <|
 .ret ([], []) (.tup [.agg [.whole 8 24], .agg [.whole 6 48], .atom (.const (.bool false))])) <|
 .calc2 (.binOp .eql 49 (.tmp 40) (.const (.int .i64 0)) 49) 4 [(40, qv 9)] ([], []) qT 0 (
 .ret ([], []) (.tup [.agg [.whole 8 24], .agg [.whole 6 48], .atom (.const (.bool true))])) qF 0 <|
 .ret ([], []) (.tup [.agg [.whole 8 24], .agg [.whole 6 48], .atom (.const (.bool false))])) <|
 .both (
 .calc2 (.binOp .eql 49 (.tmp 40) (.const (.int .i64 0)) 49) 4 [(40, qv 9)] ([], []) qT 0 (
 .both (
 .ret ([], []) (.tup [.agg [.whole 8 24], .agg [.whole 6 48], .atom (.const (.bool true))])) <|
 .ret ([], []) (.tup [.agg [.whole 8 24], .agg [.whole 6 48], .atom (.const (.bool true))])) qF 0 <|
 .both (
 .ret ([], []) (.tup [.agg [.whole 8 24], .agg [.whole 6 48], .atom (.const (.bool false))])) <|
 .ret ([], []) (.tup [.agg [.whole 8 24], .agg [.whole 6 48], .atom (.const (.bool false))])) <|
 .both (
 .both (
 .calc2 (.binOp .eql 49 (.tmp 40) (.const (.int .i64 0)) 49) 4 [(40, qv 9)] ([], []) qT 0 (
 .ret ([], []) (.tup [.agg [.whole 8 24], .agg [.whole 6 48], .atom (.const (.bool true))])) qF 0 <|
 .ret ([], []) (.tup [.agg [.whole 8 24], .agg [.whole 6 48], .atom (.const (.bool false))])) <|
 .calc2 (.binOp .eql 49 (.tmp 40) (.const (.int .i64 0)) 49) 4 [(40, qv 9)] ([], []) qT 0 (
 .ret ([], []) (.tup [.agg [.whole 8 24], .agg [.whole 6 48], .atom (.const (.bool true))])) qF 0 <|
 .ret ([], []) (.tup [.agg [.whole 8 24], .agg [.whole 6 48], .atom (.const (.bool false))])) <|
 .calc2 (.binOp .eql 49 (.tmp 40) (.const (.int .i64 0)) 49) 4 [(40, qv 9)] ([], []) qT 0 (
 .ret ([], []) (.tup [.agg [.whole 8 24], .agg [.whole 6 48], .atom (.const (.bool true))])) qF 0 <|
 .ret ([], []) (.tup [.agg [.whole 8 24], .agg [.whole 6 48], .atom (.const (.bool false))])) <|
 .both (
 .both (
 .both (
 .calc2 (.binOp .eql 49 (.tmp 40) (.const (.int .i64 0)) 49) 4 [(40, qv 9)] ([], []) qT 0 (
 .ret ([], []) (.tup [.agg [.whole 8 24], .agg [.whole 6 48], .atom (.const (.bool true))])) qF 0 <|
 .ret ([], []) (.tup [.agg [.whole 8 24], .agg [.whole 6 48], .atom (.const (.bool false))])) <|
 .both (
 .calc2 (.binOp .eql 49 (.tmp 40) (.const (.int .i64 0)) 49) 4 [(40, qv 9)] ([], []) qT 0 (
 .ret ([], []) (.tup [.agg [.whole 8 24], .agg [.whole 6 48], .atom (.const (.bool true))])) qF 0 <|
 .ret ([], []) (.tup [.agg [.whole 8 24], .agg [.whole 6 48], .atom (.const (.bool false))])) <|
 .calc2 (.binOp .eql 49 (.tmp 40) (.const (.int .i64 0)) 49) 4 [(40, qv 9)] ([], []) qT 0 (
 .ret ([], []) (.tup [.agg [.whole 8 24], .agg [.whole 6 48], .atom (.const (.bool true))])) qF 0 <|
 .ret ([], []) (.tup [.agg [.whole 8 24], .agg [.whole 6 48], .atom (.const (.bool false))])) <|
 .calc2 (.binOp .eql 49 (.tmp 40) (.const (.int .i64 0)) 49) 4 [(40, qv 9)] ([], []) qT 0 (
 .ret ([], []) (.tup [.agg [.whole 8 24], .agg [.whole 6 48], .atom (.const (.bool true))])) qF 0 <|
 .ret ([], []) (.tup [.agg [.whole 8 24], .agg [.whole 6 48], .atom (.const (.bool false))])) <|
 .calc2 (.binOp .eql 49 (.tmp 40) (.const (.int .i64 0)) 49) 4 [(40, qv 9)] ([], []) qT 0 (
 .both (
 .both (
 .ret ([], []) (.tup [.agg [.whole 8 24], .agg [.whole 6 48], .atom (.const (.bool true))])) <|
 .ret ([], []) (.tup [.agg [.whole 8 24], .agg [.whole 6 48], .atom (.const (.bool true))])) <|
 .ret ([], []) (.tup [.agg [.whole 8 24], .agg [.whole 6 48], .atom (.const (.bool true))])) qF 0 <|
 .both (
 .both (
 .ret ([], []) (.tup [.agg [.whole 8 24], .agg [.whole 6 48], .atom (.const (.bool false))])) <|
 .ret ([], []) (.tup [.agg [.whole 8 24], .agg [.whole 6 48], .atom (.const (.bool false))])) <|
 .ret ([], []) (.tup [.agg [.whole 8 24], .agg [.whole 6 48], .atom (.const (.bool false))])
theorem c_made11 : compF Try.prog Try.f9 o_made11 (Try.f9.body.getD .skip) (symIn [.agg [.one (.var 0), .one (.var 1)]] Try.f9.ntmps 2) = some t_made11 := by kernel_rfl
theorem g_made11 : goodC Try.prog o_made11.ords (Try.f9.body.getD .skip) = true := by kernel_rfl
def tb_made11 : FuncId × Trans := (9, tMade11)
set_option maxRecDepth 100000 in
theorem aw_made11 : ∀ zs Q, tb_made11.2 zs Q → bindLs 0 [.agg [.one (.var 0), .one (.var 1)]] zs fun ae => bif Nat.beq ae.length 2 then AWp Try.prog tcB Q t_made11 [] ae else False := by
 intro zs Q h
 replace h : tMade11 zs Q := h
 unfold tMade11 at h
 split at h
 case h_2 => exact h.elim
 rename_i l n
 obtain ⟨hb, h1, h2⟩ := h
 by_cases a1 : (l.length : Int) > 57
 ·have h' := h1 (by omega)
  repeat ((conv => whnf) <;> first | with_reducible first | refine wI (by omega) ?_ | refine wB (by omega) ?_ | refine And.intro rfl ?_ | rfl | refine And.intro ‹_› ?_ | refine cTe ‹_› ?_ | refine cFe ‹_› ?_ | refine cN (cTe ‹_› ?_) | refine cN (cFe ‹_› ?_) | refine cTe rfl ?_ | refine cEq ‹_› ?_ | refine cTt ?_ | refine cNt ?_ | refine cF (Eq.refl false) ?_ | refine cN (cF (Eq.refl false) ?_) | refine cTd (by omega) ?_ | refine cFd (by omega) ?_ | refine cN (cTd (by omega) ?_) | refine cN (cFd (by omega) ?_) | refine And.intro (by omega) ?_ | refine And.intro (Eq.refl true) ?_)
  (conv => whnf)
  exact h'
 by_cases a2 : n < 0
 ·have h' := h1 (by omega)
  repeat ((conv => whnf) <;> first | with_reducible first | refine wI (by omega) ?_ | refine wB (by omega) ?_ | refine And.intro rfl ?_ | rfl | refine And.intro ‹_› ?_ | refine cTe ‹_› ?_ | refine cFe ‹_› ?_ | refine cN (cTe ‹_› ?_) | refine cN (cFe ‹_› ?_) | refine cTe rfl ?_ | refine cEq ‹_› ?_ | refine cTt ?_ | refine cNt ?_ | refine cF (Eq.refl false) ?_ | refine cN (cF (Eq.refl false) ?_) | refine cTd (by omega) ?_ | refine cFd (by omega) ?_ | refine cN (cTd (by omega) ?_) | refine cN (cFd (by omega) ?_) | refine And.intro (by omega) ?_ | refine And.intro (Eq.refl true) ?_)
  (conv => whnf)
  exact h'
 by_cases a3 : n > 3
 ·have h' := h1 (by omega)
  repeat ((conv => whnf) <;> first | with_reducible first | refine wI (by omega) ?_ | refine wB (by omega) ?_ | refine And.intro rfl ?_ | rfl | refine And.intro ‹_› ?_ | refine cTe ‹_› ?_ | refine cFe ‹_› ?_ | refine cN (cTe ‹_› ?_) | refine cN (cFe ‹_› ?_) | refine cTe rfl ?_ | refine cEq ‹_› ?_ | refine cTt ?_ | refine cNt ?_ | refine cF (Eq.refl false) ?_ | refine cN (cF (Eq.refl false) ?_) | refine cTd (by omega) ?_ | refine cFd (by omega) ?_ | refine cN (cTd (by omega) ?_) | refine cN (cFd (by omega) ?_) | refine And.intro (by omega) ?_ | refine And.intro (Eq.refl true) ?_)
  (conv => whnf)
  exact h'
 have h' := h2 (by omega) (by omega) (by omega)
 clear h1 h2
 have hm : l.length ≤ 1000 ∧ By l := ⟨by omega, hb⟩
 have hn : 0 ≤ n ∧ n ≤ 3 := ⟨by omega, by omega⟩
 have hg := sgG_eq l n
 have me := encB_len (mulG (nval l) BG + mulG n.toNat TG)
 have mb : By (encB (mulG (nval l) BG + mulG n.toNat TG)) ∧ (encB (mulG (nval l) BG + mulG n.toNat TG)).length ≤ 100000 := ⟨encB_by _, by omega⟩
 obtain ⟨k1, k2⟩ := dec_enc (mulG (nval l) BG + mulG n.toNat TG)
 generalize sgG l n = g at *
 subst hg
 repeat ((conv => whnf) <;> first | with_reducible first | refine wI (by omega) ?_ | refine wB (by omega) ?_ | refine And.intro rfl ?_ | rfl | refine And.intro ‹_› ?_ | refine cTe ‹_› ?_ | refine cFe ‹_› ?_ | refine cN (cTe ‹_› ?_) | refine cN (cFe ‹_› ?_) | refine cTe rfl ?_ | refine cEq ‹_› ?_ | refine cTt ?_ | refine cNt ?_ | refine cF (Eq.refl false) ?_ | refine cN (cF (Eq.refl false) ?_) | refine cTd (by omega) ?_ | refine cFd (by omega) ?_ | refine cN (cTd (by omega) ?_) | refine cN (cFd (by omega) ?_) | refine And.intro (by omega) ?_ | refine And.intro (Eq.refl true) ?_)
 refine ⟨fun h => absurd me h, fun _ h => absurd k1 h, fun _ _ => ?_⟩
 rw [k2]
 repeat ((conv => whnf) <;> first | with_reducible first | refine wI (by omega) ?_ | refine wB (by omega) ?_ | refine And.intro rfl ?_ | rfl | refine And.intro ‹_› ?_ | refine cTe ‹_› ?_ | refine cFe ‹_› ?_ | refine cN (cTe ‹_› ?_) | refine cN (cFe ‹_› ?_) | refine cTe rfl ?_ | refine cEq ‹_› ?_ | refine cTt ?_ | refine cNt ?_ | refine cF (Eq.refl false) ?_ | refine cN (cF (Eq.refl false) ?_) | refine cTd (by omega) ?_ | refine cFd (by omega) ?_ | refine cN (cTd (by omega) ?_) | refine cN (cFd (by omega) ?_) | refine And.intro (by omega) ?_ | refine And.intro (Eq.refl true) ?_)
 repeat' (first | exact h' | (refine And.intro ?_ ?_ <;> repeat ((conv => whnf) <;> first | with_reducible first | refine wI (by omega) ?_ | refine wB (by omega) ?_ | refine And.intro rfl ?_ | rfl | refine And.intro ‹_› ?_ | refine cTe ‹_› ?_ | refine cFe ‹_› ?_ | refine cN (cTe ‹_› ?_) | refine cN (cFe ‹_› ?_) | refine cTe rfl ?_ | refine cEq ‹_› ?_ | refine cTt ?_ | refine cNt ?_ | refine cF (Eq.refl false) ?_ | refine cN (cF (Eq.refl false) ?_) | refine cTd (by omega) ?_ | refine cFd (by omega) ?_ | refine cN (cTd (by omega) ?_) | refine cN (cFd (by omega) ?_) | refine And.intro (by omega) ?_ | refine And.intro (Eq.refl true) ?_)))
theorem tb_made11_ok : Con Try.prog tb_made11.1 tb_made11.2 := con_tree tcB_ok o_made11 [.agg [.one (.var 0), .one (.var 1)]] 2 Try.func9 rfl c_made11 aw_made11 g_made11
def o_bytes11 : Orc := { ans := [(7, oV), (9, oV), (10, oB), (13, oV), (14, oB), (19, oV), (20, oV), (23, oV), (24, oV), (25, oB), (16, oV)], lps := [(0, [.slot 4 [.one], .slot 5 [.one]])], ords := [(6, [.pure 0, .pure 1, .quiet 2, .quiet 3, .pure 4, .pure 5, .quiet 6, .quiet 7, .quiet 8])] }
def t_bytes11 : Tree :=
 .calc (.call { callee := .builtin .len, args := #[.tmp 6], argTypes := #[22] }) 3 [(6, qv 0)] ([], []) (qv 2) 1 <|
 .calc (.call { callee := .builtin .len, args := #[.tmp 8], argTypes := #[22] }) 3 [(8, qv 1)] ([], []) (qv 3) 1 <|
 .calc2 (.binOp .neq 3 (.tmp 7) (.tmp 9) 3) 4 [(7, qv 2), (9, qv 3)] ([], []) qT 0 (
 .ret ([], []) qF) qF 0 <|
 .loop [.atom (.const (.bool false)), .atom (.const (.int .i64 0))] [.one, .one] <|
 .calc (.call { callee := .builtin .len, args := #[.tmp 12], argTypes := #[22] }) 3 [(12, qv 0)] ([], []) (qv 6) 1 <|
 .calc2 (.binOp .lss 3 (.tmp 11) (.tmp 13) 3) 4 [(11, qv 5), (13, qv 6)] ([], []) qT 0 (
 .calc (.indexAddr 22 (.tmp 17) (.tmp 18)) 0 [(17, qv 0), (18, qv 5)] ([], []) (qv 7) 1 <|
 .calc (.load 5 (.tmp 19)) 5 [(19, qv 7)] ([], []) (qv 8) 1 <|
 .calc (.indexAddr 22 (.tmp 21) (.tmp 22)) 0 [(21, qv 1), (22, qv 5)] ([], []) (qv 9) 1 <|
 .calc (.load 5 (.tmp 23)) 5 [(23, qv 9)] ([], []) (qv 10) 1 <|
 .calc2 (.binOp .neq 5 (.tmp 20) (.tmp 24) 5) 4 [(20, qv 8), (24, qv 10)] ([], []) qT 0 (
 .ret ([], []) qF) qF 0 <|
 .calc (.binOp .add 3 (.tmp 15) (.const (.int .i64 1)) 3) 3 [(15, qv 5)] ([], []) (qv 11) 1 <|
 .again 0 [.atom (.var 4), .atom (.var 11)]) qF 0 <|
 .ret ([], []) qT
theorem c_bytes11 : compF Try.prog Try.f67 o_bytes11 (Try.f67.body.getD .skip) (symIn [.atom (.var 0), .atom (.var 1)] Try.f67.ntmps 2) = some t_bytes11 := by kernel_rfl
theorem g_bytes11 : goodC Try.prog o_bytes11.ords (Try.f67.body.getD .skip) = true := by kernel_rfl
def tb_bytes11 : FuncId × Trans := (67, tBE11)
set_option maxRecDepth 100000 in
theorem aw_bytes11 : ∀ zs Q, tb_bytes11.2 zs Q → bindLs 0 [.atom (.var 0), .atom (.var 1)] zs fun ae => bif Nat.beq ae.length 2 then AWp Try.prog tabNil Q t_bytes11 [] ae else False := by
 intro zs Q h
 replace h : tBE11 zs Q := h
 unfold tBE11 at h
 split at h
 case h_2 => exact h.elim
 rename_i a b
 obtain ⟨⟨ha, hb⟩, h1, h2⟩ := h
 by_cases hl : a.length = b.length
 case neg =>
  have h := h2 (fun e => hl (by rw [e]))
  repeat ((conv => whnf) <;> first | with_reducible first | refine wI (by omega) ?_ | refine wB (by omega) ?_ | refine And.intro rfl ?_ | rfl | refine And.intro ‹_› ?_ | refine cTe ‹_› ?_ | refine cFe ‹_› ?_ | refine cN (cTe ‹_› ?_) | refine cN (cFe ‹_› ?_) | refine cTe rfl ?_ | refine cEq ‹_› ?_ | refine cTt ?_ | refine cNt ?_ | refine cF (Eq.refl false) ?_ | refine cN (cF (Eq.refl false) ?_) | refine cTd (by omega) ?_ | refine cFd (by omega) ?_ | refine cN (cTd (by omega) ?_) | refine cN (cFd (by omega) ?_) | refine And.intro (by omega) ?_ | refine And.intro (Eq.refl true) ?_)
  (conv => whnf)
  exact h
 repeat ((conv => whnf) <;> first | with_reducible first | refine wI (by omega) ?_ | refine wB (by omega) ?_ | refine And.intro rfl ?_ | rfl | refine And.intro ‹_› ?_ | refine cTe ‹_› ?_ | refine cFe ‹_› ?_ | refine cN (cTe ‹_› ?_) | refine cN (cFe ‹_› ?_) | refine cTe rfl ?_ | refine cEq ‹_› ?_ | refine cTt ?_ | refine cNt ?_ | refine cF (Eq.refl false) ?_ | refine cN (cF (Eq.refl false) ?_) | refine cTd (by omega) ?_ | refine cFd (by omega) ?_ | refine cN (cTd (by omega) ?_) | refine cN (cFd (by omega) ?_) | refine And.intro (by omega) ?_ | refine And.intro (Eq.refl true) ?_)
 refine ⟨Nat, fun i zs => i ≤ a.length ∧ a.take i = b.take i ∧ zs = [.bool false, .int .i64 (i : Int)], fun i => a.length - i, 0, ?_, ?_⟩
 ·(conv => whnf)
  exact ⟨_, Subs.refl' _, Nat.zero_le _, rfl, rfl⟩
 rintro i _ ⟨hi, ht, rfl⟩
 by_cases hlt : i < a.length
 ·have e0 : ((i : Int)).toNat = i := by omega
  by_cases he : a.getD (i : Int).toNat 0 = b.getD (i : Int).toNat 0
  ·repeat ((conv => whnf) <;> first | with_reducible first | refine wI (by omega) ?_ | refine wB (by omega) ?_ | refine And.intro rfl ?_ | rfl | refine And.intro ‹_› ?_ | refine cTe ‹_› ?_ | refine cFe ‹_› ?_ | refine cN (cTe ‹_› ?_) | refine cN (cFe ‹_› ?_) | refine cTe rfl ?_ | refine cEq ‹_› ?_ | refine cTt ?_ | refine cNt ?_ | refine cF (Eq.refl false) ?_ | refine cN (cF (Eq.refl false) ?_) | refine cTd (by omega) ?_ | refine cFd (by omega) ?_ | refine cN (cTd (by omega) ?_) | refine cN (cFd (by omega) ?_) | refine And.intro (by omega) ?_ | refine And.intro (Eq.refl true) ?_)
   (conv => whnf)
   exact ⟨_, Subs.refl' _, i + 1, ⟨by omega, take_step ht hlt (by omega) (by rw [e0] at he; exact he), bl_step (by omega)⟩, by show a.length - (i + 1) < a.length - i; omega⟩
  ·have h := h2 (fun e => he (by rw [e]))
   repeat ((conv => whnf) <;> first | with_reducible first | refine wI (by omega) ?_ | refine wB (by omega) ?_ | refine And.intro rfl ?_ | rfl | refine And.intro ‹_› ?_ | refine cTe ‹_› ?_ | refine cFe ‹_› ?_ | refine cN (cTe ‹_› ?_) | refine cN (cFe ‹_› ?_) | refine cTe rfl ?_ | refine cEq ‹_› ?_ | refine cTt ?_ | refine cNt ?_ | refine cF (Eq.refl false) ?_ | refine cN (cF (Eq.refl false) ?_) | refine cTd (by omega) ?_ | refine cFd (by omega) ?_ | refine cN (cTd (by omega) ?_) | refine cN (cFd (by omega) ?_) | refine And.intro (by omega) ?_ | refine And.intro (Eq.refl true) ?_)
   (conv => whnf)
   exact h
 ·have : a = b := by
   rw [List.take_of_length_le (by omega), List.take_of_length_le (by omega)] at ht
   exact ht
  have h := h1 this
  repeat ((conv => whnf) <;> first | with_reducible first | refine wI (by omega) ?_ | refine wB (by omega) ?_ | refine And.intro rfl ?_ | rfl | refine And.intro ‹_› ?_ | refine cTe ‹_› ?_ | refine cFe ‹_› ?_ | refine cN (cTe ‹_› ?_) | refine cN (cFe ‹_› ?_) | refine cTe rfl ?_ | refine cEq ‹_› ?_ | refine cTt ?_ | refine cNt ?_ | refine cF (Eq.refl false) ?_ | refine cN (cF (Eq.refl false) ?_) | refine cTd (by omega) ?_ | refine cFd (by omega) ?_ | refine cN (cTd (by omega) ?_) | refine cN (cFd (by omega) ?_) | refine And.intro (by omega) ?_ | refine And.intro (Eq.refl true) ?_)
  (conv => whnf)
  exact h
theorem tb_bytes11_ok : Con Try.prog tb_bytes11.1 tb_bytes11.2 := con_tree tabNil_ok o_bytes11 [.atom (.var 0), .atom (.var 1)] 2 Try.func67 rfl c_bytes11 aw_bytes11 g_bytes11
end Go.Proofs.Ytohebkkiicbdoaa
