/- Chapter 11: tables -/
import Derived.Test.YtamgmkeoaaaliaaGreatCmb
set_option linter.unusedSimpArgs false
set_option linter.unusedVariables false
namespace Go.Proofs.YtamgmkeoaaaliaaGreat
open Go.RowKit FdP FdP.Ch
theorem with_step {L : List G} {q : G} {k : Nat} (h : k < L.length) : (L ++ (L.take k).map (· + q)).map ptA ++ [ptA (L.getD k 0 + q)] = (L ++ (L.take (k + 1)).map (· + q)).map ptA := by
  rw [pts_push, List.append_assoc]
  congr 2
  rw [List.take_add_one, List.map_append, List.getElem?_eq_getElem h, List.getD_eq_getElem?_getD, List.getElem?_eq_getElem h]
  rfl
theorem pts_getA {gs : List G} {k : Nat} (h : k < gs.length) : (gs.map ptA).getD (k : Int).toNat .any = ptA (gs.getD k 0) := by
  rw [List.getD_eq_getElem?_getD]; exact congrArg (fun o => Option.getD o AV.any) (pts_get h)
theorem zsN {i i' : Int} {es es' : List AV} (h : i = i') (h' : es = es') : [AV.int .i64 i, .sl 24 es] = [.int .i64 i', .sl 24 es'] := by rw [h, h']
theorem pts_frees : ∀ gs : List G, AV.frees (gs.map ptA) = true
  | [] => rfl
  | g :: gs => by show (true && AV.frees (gs.map ptA)) = true; rw [pts_frees gs]; rfl
theorem row_frees (n : Nat) (gs : List G) : AV.frees [.row n, .agg (gs.map ptA)] = true := by show (true && (AV.frees (gs.map ptA) && true)) = true; rw [pts_frees]; rfl
theorem wrap_pow {t : Int} (h1 : 1 ≤ t) (h7 : t ≤ 7) : IntKind.i64.wrap (1 * 2 ^ min t.toNat IntKind.i64.bits) = ((2 ^ t.toNat : Nat) : Int) := by
  rcases (by omega : t = 1 ∨ t = 2 ∨ t = 3 ∨ t = 4 ∨ t = 5 ∨ t = 6 ∨ t = 7) with rfl | rfl | rfl | rfl | rfl | rfl | rfl <;> decide +kernel
theorem with_size (L : List G) (q : G) {k : Nat} (h : k ≤ L.length) : (L ++ (L.take k).map (· + q)).length = L.length + k := by simp [h]
def o_clonePt : Orc := { ans := [(4, oB), (7, oV)], lps := [], rws := [5], own := true }
def t_clonePt : Tree :=
  .calc2 (.binOp .eql 59 (.tmp 3) (.const (.slice none 0 0)) 59) 4 [(3, .leaf (.atom (.var 0)))] ([], []) (.leaf (.atom (.const (.bool true)))) 0 (
    .reto ([], []) (.leaf (.atom (.const (.slice none 0 0))))) (.leaf (.atom (.const (.bool false)))) 0 <|
  .mkr [] 24 <|
  .appv (some 2) 0 24 <|
  .reto ([], [⟨3, 4, 32, 24⟩]) (.leaf (.atom (.var 3)))
theorem c_clonePt : compF Tryz.prog Tryz.f25 o_clonePt (Tryz.f25.body.getD .skip) (symIn [.atom (.var 0)] Tryz.f25.ntmps 1) = some t_clonePt := by kernel_rfl
theorem g_clonePt : goodC Tryz.prog o_clonePt.ords (Tryz.f25.body.getD .skip) = true := by kernel_rfl
def tb_clonePt : FuncId × Trans := (25, tClonePt)
set_option maxRecDepth 100000 in
theorem aw_clonePt : ∀ zs Q, tb_clonePt.2 zs Q → bindLs 0 [.atom (.var 0)] zs fun ae => bif Nat.beq ae.length 1 then AWp Tryz.prog tcNil Q t_clonePt [] ae else False := by
  intro zs Q h
  replace h : tClonePt zs Q := h
  unfold tClonePt at h
  split at h
  case h_2 => exact h.elim
  rename_i es
  obtain ⟨gs, rfl, ⟨hl, h0⟩, h⟩ := h
  have ll := pts_len gs
  have sz := pts_size gs
  (conv => whnf)
  intro c hc
  obtain rfl := hc (by omega)
  repeat ((conv => whnf) <;> first | with_reducible first | refine wI (by omega) ?_ | refine And.intro rfl ?_ | rfl | refine And.intro ‹_› ?_ | refine cTe ‹_› ?_ | refine cFe ‹_› ?_ | refine cN (cTe ‹_› ?_) | refine cN (cFe ‹_› ?_) | refine cTe rfl ?_ | refine cEq ‹_› ?_ | refine cTt ?_ | refine cNt ?_ | refine cF (Eq.refl false) ?_ | refine cN (cF (Eq.refl false) ?_) | refine cTd (by omega) ?_ | refine cFd (by omega) ?_ | refine cN (cTd (by omega) ?_) | refine cN (cFd (by omega) ?_) | refine And.intro (fun hh : Option.isSome none = true => by cases hh) ?_ | refine And.intro (by omega) ?_ | refine And.intro (Eq.refl true) ?_ | refine And.intro (Eq.refl (1 : Nat)) ?_)
  have sz' : (AV.agg ([] ++ gs.map ptA)).size ≤ 1000000 := by show (AV.agg (gs.map ptA)).size ≤ 1000000; omega
  have sz2 : 0 < 24 ∧ 0 < (gs.map ptA).length := ⟨by omega, by omega⟩
  repeat ((conv => whnf) <;> first | with_reducible first | refine wI (by omega) ?_ | refine And.intro rfl ?_ | rfl | refine And.intro ‹_› ?_ | refine cTe ‹_› ?_ | refine cFe ‹_› ?_ | refine cN (cTe ‹_› ?_) | refine cN (cFe ‹_› ?_) | refine cTe rfl ?_ | refine cEq ‹_› ?_ | refine cTt ?_ | refine cNt ?_ | refine cF (Eq.refl false) ?_ | refine cN (cF (Eq.refl false) ?_) | refine cTd (by omega) ?_ | refine cFd (by omega) ?_ | refine cN (cTd (by omega) ?_) | refine cN (cFd (by omega) ?_) | refine And.intro (fun hh : Option.isSome none = true => by cases hh) ?_ | refine And.intro (by omega) ?_ | refine And.intro (Eq.refl true) ?_ | refine And.intro (Eq.refl (1 : Nat)) ?_)
  (conv => whnf)
  exact h
theorem tb_clonePt_ok : Con Tryz.prog tb_clonePt.1 tb_clonePt.2 := con_tree tcNil_ok o_clonePt [.atom (.var 0)] 1 Tryz.func25 rfl c_clonePt aw_clonePt g_clonePt
def o_tlen : Orc := { ans := [(4, oB), (6, oV), (7, oV), (8, oV), (9, oV)], lps := [] }
def t_tlen : Tree :=
  .calc2 (.binOp .eql 40 (.tmp 3) (.const (.pointer none)) 40) 4 [(3, .leaf (.atom (.var 0)))] ([], []) (.leaf (.atom (.const (.bool true)))) 0 (
    .ret ([], []) (.leaf (.atom (.const (.int .i64 0))))) (.leaf (.atom (.const (.bool false)))) 0 <|
  .calc (.nilCheck (.tmp 5)) 0 [(5, .leaf (.atom (.var 0)))] ([], []) (.leaf (.atom (.var 1))) 1 <|
  .calc (.fieldAddr 65 (.tmp 6) 0) 0 [(6, .leaf (.atom (.var 1)))] ([], []) (.leaf (.atom (.var 2))) 1 <|
  .calc (.load 59 (.tmp 7)) 59 [(7, .leaf (.atom (.var 2)))] ([], []) (.leaf (.atom (.var 3))) 1 <|
  .calc (.call { callee := .builtin .len, args := #[.tmp 8], argTypes := #[59] }) 3 [(8, .leaf (.atom (.var 3)))] ([], []) (.leaf (.atom (.var 4))) 1 <|
  .ret ([], []) (.leaf (.atom (.var 4)))
theorem c_tlen : compF Tryz.prog Tryz.f18 o_tlen (Tryz.f18.body.getD .skip) (symIn [.atom (.var 0)] Tryz.f18.ntmps 1) = some t_tlen := by kernel_rfl
theorem g_tlen : goodC Tryz.prog o_tlen.ords (Tryz.f18.body.getD .skip) = true := by kernel_rfl
def tb_tlen : FuncId × Trans := (18, tTLen)
set_option maxRecDepth 100000 in
theorem aw_tlen : ∀ zs Q, tb_tlen.2 zs Q → bindLs 0 [.atom (.var 0)] zs fun ae => bif Nat.beq ae.length 1 then AWp Tryz.prog tcNil Q t_tlen [] ae else False := by
  intro zs Q h
  replace h : tTLen zs Q := h
  unfold tTLen at h
  split at h
  case h_3 => exact h.elim
  · repeat ((conv => whnf) <;> first | with_reducible first | refine wI (by omega) ?_ | refine And.intro rfl ?_ | rfl | refine And.intro ‹_› ?_ | refine cTe ‹_› ?_ | refine cFe ‹_› ?_ | refine cN (cTe ‹_› ?_) | refine cN (cFe ‹_› ?_) | refine cTe rfl ?_ | refine cEq ‹_› ?_ | refine cTt ?_ | refine cNt ?_ | refine cF (Eq.refl false) ?_ | refine cN (cF (Eq.refl false) ?_) | refine cTd (by omega) ?_ | refine cFd (by omega) ?_ | refine cN (cTd (by omega) ?_) | refine cN (cFd (by omega) ?_) | refine And.intro (by omega) ?_ | refine And.intro (Eq.refl true) ?_)
    (conv => whnf)
    exact h
  · obtain ⟨rfl, h⟩ := h
    repeat ((conv => whnf) <;> first | with_reducible first | refine wI (by omega) ?_ | refine And.intro rfl ?_ | rfl | refine And.intro ‹_› ?_ | refine cTe ‹_› ?_ | refine cFe ‹_› ?_ | refine cN (cTe ‹_› ?_) | refine cN (cFe ‹_› ?_) | refine cTe rfl ?_ | refine cEq ‹_› ?_ | refine cTt ?_ | refine cNt ?_ | refine cF (Eq.refl false) ?_ | refine cN (cF (Eq.refl false) ?_) | refine cTd (by omega) ?_ | refine cFd (by omega) ?_ | refine cN (cTd (by omega) ?_) | refine cN (cFd (by omega) ?_) | refine And.intro (by omega) ?_ | refine And.intro (Eq.refl true) ?_)
    (conv => whnf)
    exact h
theorem tb_tlen_ok : Con Tryz.prog tb_tlen.1 tb_tlen.2 := con_tree tcNil_ok o_tlen [.atom (.var 0)] 1 Tryz.func18 rfl c_tlen aw_tlen g_tlen
def tcG : Tab := tb_pid :: tb_look :: []
theorem tcG_ok : tcG.OK Tryz.prog := tab_cons tb_pid_ok <| tab_cons tb_look_ok <| tab_nil _
def o_tlook : Orc := { ans := [(7, oB), (8, .one ⟨.leaf (.agg [.whole 0 24]), 1, []⟩), (10, oV), (11, oV), (12, oV), (14, .one ⟨.tup [.agg [.whole 0 24], .atom (.var 1)], 2, []⟩)], lps := [] }
def t_tlook : Tree :=
  .new <|
  .calc2 (.binOp .eql 40 (.tmp 6) (.const (.pointer none)) 40) 4 [(6, .leaf (.atom (.var 0)))] ([], []) (.leaf (.atom (.const (.bool true)))) 0 (
    .call 10 [] ([], []) (.leaf (.agg [.whole 2 24])) 1 [] <|
    .ret ([], []) (.tup [.agg [.whole 2 24], .atom (.const (.int .i64 2))])) (.leaf (.atom (.const (.bool false)))) 0 <|
  .calc (.nilCheck (.tmp 9)) 0 [(9, .leaf (.atom (.var 0)))] ([], []) (.leaf (.atom (.var 2))) 1 <|
  .calc (.fieldAddr 65 (.tmp 10) 0) 0 [(10, .leaf (.atom (.var 2)))] ([], []) (.leaf (.atom (.var 3))) 1 <|
  .calc (.load 59 (.tmp 11)) 59 [(11, .leaf (.atom (.var 3)))] ([], []) (.leaf (.atom (.var 4))) 1 <|
  .call 55 [.atom (.var 4), .atom (.var 1)] ([], []) (.tup [.agg [.whole 5 24], .atom (.var 6)]) 2 [] <|
  .ret ([], []) (.tup [.agg [.whole 5 24], .atom (.var 6)])
theorem c_tlook : compF Tryz.prog Tryz.f19 o_tlook (Tryz.f19.body.getD .skip) (symIn [.atom (.var 0), .atom (.var 1)] Tryz.f19.ntmps 2) = some t_tlook := by kernel_rfl
theorem g_tlook : goodC Tryz.prog o_tlook.ords (Tryz.f19.body.getD .skip) = true := by kernel_rfl
def tb_tlook : FuncId × Trans := (19, tTLook)
set_option maxRecDepth 100000 in
theorem aw_tlook : ∀ zs Q, tb_tlook.2 zs Q → bindLs 0 [.atom (.var 0), .atom (.var 1)] zs fun ae => bif Nat.beq ae.length 2 then AWp Tryz.prog tcG Q t_tlook [] ae else False := by
  intro zs Q h
  replace h : tTLook zs Q := h
  unfold tTLook at h
  split at h
  case h_3 => exact h.elim
  · repeat ((conv => whnf) <;> first | with_reducible first | refine wI (by omega) ?_ | refine And.intro rfl ?_ | rfl | refine And.intro ‹_› ?_ | refine cTe ‹_› ?_ | refine cFe ‹_› ?_ | refine cN (cTe ‹_› ?_) | refine cN (cFe ‹_› ?_) | refine cTe rfl ?_ | refine cEq ‹_› ?_ | refine cTt ?_ | refine cNt ?_ | refine cF (Eq.refl false) ?_ | refine cN (cF (Eq.refl false) ?_) | refine cTd (by omega) ?_ | refine cFd (by omega) ?_ | refine cN (cTd (by omega) ?_) | refine cN (cFd (by omega) ?_) | refine And.intro (by omega) ?_ | refine And.intro (Eq.refl true) ?_)
    (conv => whnf)
    exact h
  · obtain ⟨rfl, h⟩ := h
    repeat ((conv => whnf) <;> first | with_reducible first | refine wI (by omega) ?_ | refine And.intro rfl ?_ | rfl | refine And.intro ‹_› ?_ | refine cTe ‹_› ?_ | refine cFe ‹_› ?_ | refine cN (cTe ‹_› ?_) | refine cN (cFe ‹_› ?_) | refine cTe rfl ?_ | refine cEq ‹_› ?_ | refine cTt ?_ | refine cNt ?_ | refine cF (Eq.refl false) ?_ | refine cN (cF (Eq.refl false) ?_) | refine cTd (by omega) ?_ | refine cFd (by omega) ?_ | refine cN (cTd (by omega) ?_) | refine cN (cFd (by omega) ?_) | refine And.intro (by omega) ?_ | refine And.intro (Eq.refl true) ?_)
    (conv => whnf)
    exact h
theorem tb_tlook_ok : Con Tryz.prog tb_tlook.1 tb_tlook.2 := con_tree tcG_ok o_tlook [.atom (.var 0), .atom (.var 1)] 2 Tryz.func19 rfl c_tlook aw_tlook g_tlook
def tcH : Tab := tb_powers :: tb_pid :: tb_clonePt :: tb_padd :: []
theorem tcH_ok : tcH.OK Tryz.prog := tab_cons tb_powers_ok <| tab_cons tb_pid_ok <| tab_cons tb_clonePt_ok <| tab_cons tb_padd_ok <| tab_nil _
def o_newT : Orc := { ans := [(15, oB), (18, oB), (19, oV), (22, oB), (23, oV), (26, oB), (27, oV), (29, .one ⟨.leaf (.agg [.whole 0 24]), 1, []⟩), (32, oV), (34, oV), (35, oV), (37, oV), (38, .one ⟨.tup [.atom (.var 0), .atom (.var 1)], 2, []⟩), (42, oB), (44, .one ⟨.leaf (.agg [.whole 0 24]), 1, []⟩), (48, oV), (50, oB), (51, oV), (52, .one ⟨.leaf (.agg [.whole 0 24]), 1, []⟩), (54, .one ⟨.leaf (.agg [.whole 0 24]), 1, []⟩), (55, oV), (56, oV), (57, oV), (59, oV), (60, oB), (61, oV), (62, oV)], lps := [(0, [.slot 49 [.one], .blk 1 [.one]])], ords := [(3, [.quiet 0, .pure 1, .pure 2, .quiet 3, .pure 4, .quiet 5, .quiet 6, .pure 7, .quiet 8, .call 9 [], .pure 10, .pure 11, .pure 12, .pure 13, .pure 14]), (12, [.quiet 0, .quiet 1, .pure 2, .quiet 3, .quiet 4])], rws := [45], inl := [(55, { ans := [(7, oV), (8, .fresh ⟨.leaf (.atom (.var 0)), 2, []⟩ ⟨0, 1, 32, 24⟩), (9, oV), (10, oV), (12, oB), (13, oV), (14, .one ⟨.leaf (.agg [.whole 0 24]), 1, []⟩), (16, .one ⟨.leaf (.agg [.whole 0 24]), 1, []⟩), (17, .one ⟨.leaf (.agg [.whole 0 24]), 1, []⟩), (18, .one ⟨.leaf (.agg [.whole 0 24]), 1, []⟩), (20, oV), (21, oV)], lps := [(0, [.row 4 32 24, .slot 11 [.one]])] })] }
def t_newT : Tree :=
  .new <|
  .calc2 (.binOp .lss 3 (.tmp 14) (.const (.int .i64 1)) 3) 4 [(14, .leaf (.atom (.var 1)))] ([], []) (.leaf (.atom (.const (.bool true)))) 0 (
    .ret ([], []) (.tup [.atom (.const (.pointer none)), .atom (.const (.int .i64 10))])) (.leaf (.atom (.const (.bool false)))) 0 <|
  .calc2 (.binOp .gtr 3 (.tmp 17) (.const (.int .i64 7)) 3) 4 [(17, .leaf (.atom (.var 1)))] ([], []) (.leaf (.atom (.const (.bool true)))) 0 (
    .ret ([], []) (.tup [.atom (.const (.pointer none)), .atom (.const (.int .i64 10))])) (.leaf (.atom (.const (.bool false)))) 0 <|
  .calc2 (.binOp .lss 3 (.tmp 21) (.const (.int .i64 1)) 3) 4 [(21, .leaf (.atom (.var 2)))] ([], []) (.leaf (.atom (.const (.bool true)))) 0 (
    .ret ([], []) (.tup [.atom (.const (.pointer none)), .atom (.const (.int .i64 10))])) (.leaf (.atom (.const (.bool false)))) 0 <|
  .calc2 (.binOp .gtr 3 (.tmp 25) (.const (.int .i64 64)) 3) 4 [(25, .leaf (.atom (.var 2)))] ([], []) (.leaf (.atom (.const (.bool true)))) 0 (
    .ret ([], []) (.tup [.atom (.const (.pointer none)), .atom (.const (.int .i64 10))])) (.leaf (.atom (.const (.bool false)))) 0 <|
  .calc (.binOp .mul 3 (.const (.int .i64 8)) (.tmp 31) 3) 3 [(31, .leaf (.atom (.var 2)))] ([], []) (.leaf (.atom (.var 3))) 1 <|
  .calc (.binOp .add 3 (.tmp 32) (.tmp 33) 3) 3 [(32, .leaf (.atom (.var 3))), (33, .leaf (.atom (.var 1)))] ([], []) (.leaf (.atom (.var 4))) 1 <|
  .calc (.binOp .sub 3 (.tmp 34) (.const (.int .i64 1)) 3) 3 [(34, .leaf (.atom (.var 4)))] ([], []) (.leaf (.atom (.var 5))) 1 <|
  .calc (.binOp .quo 3 (.tmp 35) (.tmp 36) 3) 3 [(35, .leaf (.atom (.var 5))), (36, .leaf (.atom (.var 1)))] ([], []) (.leaf (.atom (.var 6))) 1 <|
  .call 23 [.agg [.whole 0 24], .atom (.var 1), .atom (.var 6)] ([], []) (.tup [.atom (.var 7), .atom (.var 8)]) 2 [] <|
  .calc2 (.binOp .neq 41 (.tmp 41) (.const (.int .i64 0)) 41) 4 [(41, .leaf (.atom (.var 8)))] ([], []) (.leaf (.atom (.const (.bool true)))) 0 (
    .ret ([], []) (.tup [.atom (.const (.pointer none)), .atom (.var 8)])) (.leaf (.atom (.const (.bool false)))) 0 <|
  .call 10 [] ([], []) (.leaf (.agg [.whole 9 24])) 1 [] <|
  .mkr [.whole 9 24] 24 <|
  .new <|
  .calc (.call { callee := .builtin .len, args := #[.tmp 47], argTypes := #[59] }) 3 [(47, .leaf (.atom (.var 7)))] ([], []) (.leaf (.atom (.var 12))) 1 <|
  .frz 10 11 ([([.whole 0 24], 32), ([.one (.var 10)], 59)], [⟨10, 11, 32, 24⟩]) <|
  .loop [.atom (.const (.int .i64 0)), .atom (.var 10)] [.one, .one] <|
  .calc2 (.binOp .lss 3 (.tmp 49) (.tmp 48) 3) 0 [(49, .leaf (.atom (.var 13))), (48, .leaf (.atom (.var 12)))] ([], []) (.leaf (.atom (.const (.bool true)))) 0 (
    .calc (.indexAddr 59 (.tmp 47) (.tmp 49)) 0 [(47, .leaf (.atom (.var 7))), (49, .leaf (.atom (.var 13)))] ([], []) (.leaf (.atom (.var 15))) 1 <|
    .calc (.load 32 (.tmp 51)) 32 [(51, .leaf (.atom (.var 15)))] ([], []) (.leaf (.agg [.whole 16 24])) 1 <|
    .new <|
    .new <|
    .callr 25 [.atom (.var 14)] ([], []) (.leaf (.atom (.var 17))) 2 ⟨17, 18, 32, 24⟩ <|
    .calc (.call { callee := .builtin .len, args := #[.tmp 9], argTypes := #[59] }) 3 [(9, .leaf (.atom (.var 14)))] ([], []) (.leaf (.atom (.var 19))) 1 <|
    .loop [.atom (.var 17), .agg [.rest 18], .atom (.const (.int .i64 0))] [.one, .row, .one] <|
    .calc2 (.binOp .lss 3 (.tmp 11) (.tmp 10) 3) 0 [(11, .leaf (.atom (.var 22))), (10, .leaf (.atom (.var 19)))] ([], []) (.leaf (.atom (.const (.bool true)))) 0 (
      .calc (.indexAddr 59 (.tmp 9) (.tmp 11)) 0 [(9, .leaf (.atom (.var 14))), (11, .leaf (.atom (.var 22)))] ([], []) (.leaf (.atom (.var 23))) 1 <|
      .calc (.load 32 (.tmp 13)) 32 [(13, .leaf (.atom (.var 23)))] ([], []) (.leaf (.agg [.whole 24 24])) 1 <|
      .new <|
      .call 21 [.agg [.whole 24 24], .agg [.whole 16 24]] ([], []) (.leaf (.agg [.whole 25 24])) 1 [] <|
      .new <|
      .app (some 21) [.whole 25 24] 24 <|
      .calc (.binOp .add 3 (.tmp 11) (.const (.int .i64 1)) 3) 3 [(11, .leaf (.atom (.var 22)))] ([], []) (.leaf (.atom (.var 28))) 1 <|
      .again 1 [.atom (.var 26), .agg [.rest 27], .atom (.var 28)]) (.leaf (.atom (.const (.bool false)))) 0 <|
    .calc (.call { callee := .builtin .len, args := #[.tmp 56], argTypes := #[59] }) 3 [(56, .leaf (.atom (.var 20)))] ([([.whole 0 24], 32), ([.one (.var 20)], 59), ([.whole 16 24], 32), ([.whole 16 24], 32)], [⟨20, 21, 32, 24⟩]) (.leaf (.atom (.var 23))) 1 <|
    .calc (.binOp .shl 3 (.const (.int .i64 1)) (.tmp 58) 3) 3 [(58, .leaf (.atom (.var 1)))] ([], []) (.leaf (.atom (.var 24))) 1 <|
    .calc2 (.binOp .eql 3 (.tmp 57) (.tmp 59) 3) 4 [(57, .leaf (.atom (.var 23))), (59, .leaf (.atom (.var 24)))] ([], []) (.leaf (.atom (.const (.bool true)))) 0 (
      .new <|
      .ret ([([.whole 0 24], 32), ([.one (.var 20)], 59), ([.whole 16 24], 32), ([.whole 16 24], 32), ([.one (.var 20), .one (.var 1), .one (.var 2)], 65)], [⟨20, 21, 32, 24⟩]) (.tup [.atom (.ptr 4 0), .atom (.const (.int .i64 0))])) (.leaf (.atom (.const (.bool false)))) 0 <|
    .calc (.binOp .add 3 (.tmp 49) (.const (.int .i64 1)) 3) 3 [(49, .leaf (.atom (.var 13)))] ([], []) (.leaf (.atom (.var 25))) 1 <|
    .frz 20 21 ([([.whole 0 24], 32), ([.one (.var 20)], 59), ([.whole 16 24], 32), ([.whole 16 24], 32)], [⟨20, 21, 32, 24⟩]) <|
    .again 0 [.atom (.var 25), .atom (.var 20)]) (.leaf (.atom (.const (.bool false)))) 0 <|
  .new <|
  .ret ([([.whole 0 24], 32), ([.one (.var 14)], 59), ([.one (.var 14), .one (.var 1), .one (.var 2)], 65)], []) (.tup [.atom (.ptr 2 0), .atom (.const (.int .i64 0))])
theorem c_newT : compF Tryz.prog Tryz.f6 o_newT (Tryz.f6.body.getD .skip) (symIn [.agg [.whole 0 24], .atom (.var 1), .atom (.var 2)] Tryz.f6.ntmps 3) = some t_newT := by kernel_rfl
theorem g_newT : goodC Tryz.prog o_newT.ords (Tryz.f6.body.getD .skip) = true := by kernel_rfl
def tb_newT : FuncId × Trans := (6, tNewT)
set_option maxRecDepth 100000 in
theorem aw_newT : ∀ zs Q, tb_newT.2 zs Q → bindLs 0 [.agg [.whole 0 24], .atom (.var 1), .atom (.var 2)] zs fun ae => bif Nat.beq ae.length 3 then AWp Tryz.prog tcH Q t_newT [] ae else False := by
  intro zs Q h
  replace h : tNewT zs Q := h
  unfold tNewT at h
  split at h
  case h_2 => exact h.elim
  rename_i p t s
  obtain ⟨h1, h2⟩ := h
  by_cases a1 : t < 1
  · have h' := h1 (by omega)
    repeat ((conv => whnf) <;> first | with_reducible first | refine wI (by omega) ?_ | refine wQ (by omega) ?_ | refine And.intro rfl ?_ | rfl | refine And.intro ‹_› ?_ | refine cTe ‹_› ?_ | refine cFe ‹_› ?_ | refine cN (cTe ‹_› ?_) | refine cN (cFe ‹_› ?_) | refine cTe rfl ?_ | refine cEq ‹_› ?_ | refine cTt ?_ | refine cNt ?_ | refine cF (Eq.refl false) ?_ | refine cN (cF (Eq.refl false) ?_) | refine cTd (by omega) ?_ | refine cFd (by omega) ?_ | refine cN (cTd (by omega) ?_) | refine cN (cFd (by omega) ?_) | refine And.intro (by omega) ?_ | refine And.intro (Eq.refl true) ?_ | refine And.intro (Eq.refl (1 : Nat)) ?_)
    (conv => whnf)
    exact h'
  by_cases a2 : t > 7
  · have h' := h1 (by omega)
    repeat ((conv => whnf) <;> first | with_reducible first | refine wI (by omega) ?_ | refine wQ (by omega) ?_ | refine And.intro rfl ?_ | rfl | refine And.intro ‹_› ?_ | refine cTe ‹_› ?_ | refine cFe ‹_› ?_ | refine cN (cTe ‹_› ?_) | refine cN (cFe ‹_› ?_) | refine cTe rfl ?_ | refine cEq ‹_› ?_ | refine cTt ?_ | refine cNt ?_ | refine cF (Eq.refl false) ?_ | refine cN (cF (Eq.refl false) ?_) | refine cTd (by omega) ?_ | refine cFd (by omega) ?_ | refine cN (cTd (by omega) ?_) | refine cN (cFd (by omega) ?_) | refine And.intro (by omega) ?_ | refine And.intro (Eq.refl true) ?_ | refine And.intro (Eq.refl (1 : Nat)) ?_)
    (conv => whnf)
    exact h'
  by_cases a3 : s < 1
  · have h' := h1 (by omega)
    repeat ((conv => whnf) <;> first | with_reducible first | refine wI (by omega) ?_ | refine wQ (by omega) ?_ | refine And.intro rfl ?_ | rfl | refine And.intro ‹_› ?_ | refine cTe ‹_› ?_ | refine cFe ‹_› ?_ | refine cN (cTe ‹_› ?_) | refine cN (cFe ‹_› ?_) | refine cTe rfl ?_ | refine cEq ‹_› ?_ | refine cTt ?_ | refine cNt ?_ | refine cF (Eq.refl false) ?_ | refine cN (cF (Eq.refl false) ?_) | refine cTd (by omega) ?_ | refine cFd (by omega) ?_ | refine cN (cTd (by omega) ?_) | refine cN (cFd (by omega) ?_) | refine And.intro (by omega) ?_ | refine And.intro (Eq.refl true) ?_ | refine And.intro (Eq.refl (1 : Nat)) ?_)
    (conv => whnf)
    exact h'
  by_cases a4 : s > 64
  · have h' := h1 (by omega)
    repeat ((conv => whnf) <;> first | with_reducible first | refine wI (by omega) ?_ | refine wQ (by omega) ?_ | refine And.intro rfl ?_ | rfl | refine And.intro ‹_› ?_ | refine cTe ‹_› ?_ | refine cFe ‹_› ?_ | refine cN (cTe ‹_› ?_) | refine cN (cFe ‹_› ?_) | refine cTe rfl ?_ | refine cEq ‹_› ?_ | refine cTt ?_ | refine cNt ?_ | refine cF (Eq.refl false) ?_ | refine cN (cF (Eq.refl false) ?_) | refine cTd (by omega) ?_ | refine cFd (by omega) ?_ | refine cN (cTd (by omega) ?_) | refine cN (cFd (by omega) ?_) | refine And.intro (by omega) ?_ | refine And.intro (Eq.refl true) ?_ | refine And.intro (Eq.refl (1 : Nat)) ?_)
    (conv => whnf)
    exact h'
  have h' := h2 (by omega) (by omega) (by omega) (by omega)
  clear h1 h2
  have hq0 : 0 ≤ (8 * s + t - 1) / t ∧ (8 * s + t - 1) / t ≤ 512 := ⟨Int.ediv_nonneg (by omega) (by omega), Int.ediv_le_of_le_mul (by omega) (by omega)⟩
  have hpl := powL_len p ((8 * s + t - 1) / t).toNat t.toNat
  have hpg := powL_get p ((8 * s + t - 1) / t).toNat t.toNat
  have hqN : ∀ j, qN p t s j = mulG (2 ^ (((8 * s + t - 1) / t).toNat * j)) p := fun j => rfl
  repeat ((conv => whnf) <;> first | with_reducible first | refine wI (by omega) ?_ | refine wQ (by omega) ?_ | refine And.intro rfl ?_ | rfl | refine And.intro ‹_› ?_ | refine cTe ‹_› ?_ | refine cFe ‹_› ?_ | refine cN (cTe ‹_› ?_) | refine cN (cFe ‹_› ?_) | refine cTe rfl ?_ | refine cEq ‹_› ?_ | refine cTt ?_ | refine cNt ?_ | refine cF (Eq.refl false) ?_ | refine cN (cF (Eq.refl false) ?_) | refine cTd (by omega) ?_ | refine cFd (by omega) ?_ | refine cN (cTd (by omega) ?_) | refine cN (cFd (by omega) ?_) | refine And.intro (by omega) ?_ | refine And.intro (Eq.refl true) ?_ | refine And.intro (Eq.refl (1 : Nat)) ?_)
  intro _ _ _ _
  generalize powL p ((8 * s + t - 1) / t).toNat t.toNat = R at *
  have hpp := pts_len R
  repeat ((conv => whnf) <;> first | with_reducible first | refine wI (by omega) ?_ | refine wQ (by omega) ?_ | refine And.intro rfl ?_ | rfl | refine And.intro ‹_› ?_ | refine cTe ‹_› ?_ | refine cFe ‹_› ?_ | refine cN (cTe ‹_› ?_) | refine cN (cFe ‹_› ?_) | refine cTe rfl ?_ | refine cEq ‹_› ?_ | refine cTt ?_ | refine cNt ?_ | refine cF (Eq.refl false) ?_ | refine cN (cF (Eq.refl false) ?_) | refine cTd (by omega) ?_ | refine cFd (by omega) ?_ | refine cN (cTd (by omega) ?_) | refine cN (cFd (by omega) ?_) | refine And.intro (by omega) ?_ | refine And.intro (Eq.refl true) ?_ | refine And.intro (Eq.refl (1 : Nat)) ?_)
  refine ⟨by show 0 < 24; omega, by intro e he; simp at he; subst he; rfl, ?_⟩
  repeat ((conv => whnf) <;> first | with_reducible first | refine wI (by omega) ?_ | refine wQ (by omega) ?_ | refine And.intro rfl ?_ | rfl | refine And.intro ‹_› ?_ | refine cTe ‹_› ?_ | refine cFe ‹_› ?_ | refine cN (cTe ‹_› ?_) | refine cN (cFe ‹_› ?_) | refine cTe rfl ?_ | refine cEq ‹_› ?_ | refine cTt ?_ | refine cNt ?_ | refine cF (Eq.refl false) ?_ | refine cN (cF (Eq.refl false) ?_) | refine cTd (by omega) ?_ | refine cFd (by omega) ?_ | refine cN (cTd (by omega) ?_) | refine cN (cFd (by omega) ?_) | refine And.intro (by omega) ?_ | refine And.intro (Eq.refl true) ?_ | refine And.intro (Eq.refl (1 : Nat)) ?_)
  refine ⟨Nat, fun j zs => j < t.toNat ∧ zs = [.int .i64 (j : Int), .sl 24 ((tabL (qN p t s) j).map ptA)], fun j => t.toNat - j, 0, ?_, ?_⟩
  · (conv => whnf)
    exact ⟨_, Subs.refl' _, by omega, zsN rfl rfl⟩
  rintro j _ ⟨hj, rfl⟩
  have hg : (R.map ptA).getD (j : Int).toNat .any = ptA (qN p t s j) := by rw [pts_getA (by omega), hpg j hj]; rfl
  have ht1 := tabL_s (qN p t s) j
  have ht2 := tabL_len (qN p t s) j
  have hp0 : 0 < 2 ^ j := Nat.pow_pos (by omega)
  have hp7 : 2 ^ j ≤ 2 ^ 7 := Nat.pow_le_pow_right (by omega) (by omega)
  generalize hL : tabL (qN p t s) j = L at *
  generalize qN p t s j = q at *
  have hll := pts_len L
  repeat ((conv => whnf) <;> first | with_reducible first | refine wI (by omega) ?_ | refine wQ (by omega) ?_ | refine And.intro rfl ?_ | rfl | refine And.intro ‹_› ?_ | refine cTe ‹_› ?_ | refine cFe ‹_› ?_ | refine cN (cTe ‹_› ?_) | refine cN (cFe ‹_› ?_) | refine cTe rfl ?_ | refine cEq ‹_› ?_ | refine cTt ?_ | refine cNt ?_ | refine cF (Eq.refl false) ?_ | refine cN (cF (Eq.refl false) ?_) | refine cTd (by omega) ?_ | refine cFd (by omega) ?_ | refine cN (cTd (by omega) ?_) | refine cN (cFd (by omega) ?_) | refine And.intro (by omega) ?_ | refine And.intro (Eq.refl true) ?_ | refine And.intro (Eq.refl (1 : Nat)) ?_)
  refine ⟨ptA q, hg, ?_⟩
  repeat ((conv => whnf) <;> first | with_reducible first | refine wI (by omega) ?_ | refine wQ (by omega) ?_ | refine And.intro rfl ?_ | rfl | refine And.intro ‹_› ?_ | refine cTe ‹_› ?_ | refine cFe ‹_› ?_ | refine cN (cTe ‹_› ?_) | refine cN (cFe ‹_› ?_) | refine cTe rfl ?_ | refine cEq ‹_› ?_ | refine cTt ?_ | refine cNt ?_ | refine cF (Eq.refl false) ?_ | refine cN (cF (Eq.refl false) ?_) | refine cTd (by omega) ?_ | refine cFd (by omega) ?_ | refine cN (cTd (by omega) ?_) | refine cN (cFd (by omega) ?_) | refine And.intro (by omega) ?_ | refine And.intro (Eq.refl true) ?_ | refine And.intro (Eq.refl (1 : Nat)) ?_)
  refine ⟨L, rfl, ⟨by omega, by omega⟩, ?_⟩
  have fr := row_frees ((AV.agg (L.map ptA)).size / 24) L
  repeat ((conv => whnf) <;> first | with_reducible first | refine wI (by omega) ?_ | refine wQ (by omega) ?_ | refine And.intro rfl ?_ | rfl | refine And.intro ‹_› ?_ | refine cTe ‹_› ?_ | refine cFe ‹_› ?_ | refine cN (cTe ‹_› ?_) | refine cN (cFe ‹_› ?_) | refine cTe rfl ?_ | refine cEq ‹_› ?_ | refine cTt ?_ | refine cNt ?_ | refine cF (Eq.refl false) ?_ | refine cN (cF (Eq.refl false) ?_) | refine cTd (by omega) ?_ | refine cFd (by omega) ?_ | refine cN (cTd (by omega) ?_) | refine cN (cFd (by omega) ?_) | refine And.intro (by omega) ?_ | refine And.intro (Eq.refl true) ?_ | refine And.intro (Eq.refl (1 : Nat)) ?_)
  refine ⟨Nat, fun k zs => k ≤ L.length ∧ zs = [.row (L.length + k), .agg ((L ++ (L.take k).map (· + q)).map ptA), .int .i64 (k : Int)], fun k => L.length - k, 0, ?_, ?_⟩
  · (conv => whnf)
    refine ⟨_, Subs.refl' _, Nat.zero_le _, zsQ ?_ ?_ rfl⟩
    · show (AV.agg (L.map ptA)).size / 24 = _
      rw [pts_size]; omega
    · simp
  rintro k _ ⟨hk, rfl⟩
  by_cases hlt : (k : Int) < L.length
  · have hg2 : (L.map ptA).getD (k : Int).toNat .any = ptA (L.getD k 0) := pts_getA (by omega)
    have hw := with_step (q := q) (by omega : k < L.length)
    have hz := with_size L q hk
    generalize L.getD k 0 = x at *
    generalize (L ++ (L.take k).map (· + q)) = M at *
    have sz : (AV.agg (M.map ptA ++ [one [ptA (x + q)]])).size = 24 * M.length + 24 := pts_push_size M _
    repeat ((conv => whnf) <;> first | with_reducible first | refine wI (by omega) ?_ | refine wQ (by omega) ?_ | refine And.intro rfl ?_ | rfl | refine And.intro ‹_› ?_ | refine cTe ‹_› ?_ | refine cFe ‹_› ?_ | refine cN (cTe ‹_› ?_) | refine cN (cFe ‹_› ?_) | refine cTe rfl ?_ | refine cEq ‹_› ?_ | refine cTt ?_ | refine cNt ?_ | refine cF (Eq.refl false) ?_ | refine cN (cF (Eq.refl false) ?_) | refine cTd (by omega) ?_ | refine cFd (by omega) ?_ | refine cN (cTd (by omega) ?_) | refine cN (cFd (by omega) ?_) | refine And.intro (by omega) ?_ | refine And.intro (Eq.refl true) ?_ | refine And.intro (Eq.refl (1 : Nat)) ?_)
    refine ⟨ptA x, hg2, ?_⟩
    repeat ((conv => whnf) <;> first | with_reducible first | refine wI (by omega) ?_ | refine wQ (by omega) ?_ | refine And.intro rfl ?_ | rfl | refine And.intro ‹_› ?_ | refine cTe ‹_› ?_ | refine cFe ‹_› ?_ | refine cN (cTe ‹_› ?_) | refine cN (cFe ‹_› ?_) | refine cTe rfl ?_ | refine cEq ‹_› ?_ | refine cTt ?_ | refine cNt ?_ | refine cF (Eq.refl false) ?_ | refine cN (cF (Eq.refl false) ?_) | refine cTd (by omega) ?_ | refine cFd (by omega) ?_ | refine cN (cTd (by omega) ?_) | refine cN (cFd (by omega) ?_) | refine And.intro (by omega) ?_ | refine And.intro (Eq.refl true) ?_ | refine And.intro (Eq.refl (1 : Nat)) ?_)
    refine ⟨Nat.le_trans (Nat.le_of_eq sz) (by omega), ?_⟩
    repeat ((conv => whnf) <;> first | with_reducible first | refine wI (by omega) ?_ | refine wQ (by omega) ?_ | refine And.intro rfl ?_ | rfl | refine And.intro ‹_› ?_ | refine cTe ‹_› ?_ | refine cFe ‹_› ?_ | refine cN (cTe ‹_› ?_) | refine cN (cFe ‹_› ?_) | refine cTe rfl ?_ | refine cEq ‹_› ?_ | refine cTt ?_ | refine cNt ?_ | refine cF (Eq.refl false) ?_ | refine cN (cF (Eq.refl false) ?_) | refine cTd (by omega) ?_ | refine cFd (by omega) ?_ | refine cN (cTd (by omega) ?_) | refine cN (cFd (by omega) ?_) | refine And.intro (by omega) ?_ | refine And.intro (Eq.refl true) ?_ | refine And.intro (Eq.refl (1 : Nat)) ?_)
    (conv => whnf)
    refine ⟨_, Subs.refl' _, k + 1, ⟨by omega, zsQ ?_ hw (by omega)⟩, by show L.length - (k + 1) < L.length - k; omega⟩
    show (AV.agg (M.map ptA ++ [one [ptA (x + q)]])).size / 24 = _
    rw [sz, hz]; omega
  · obtain rfl : k = L.length := by omega
    rw [List.take_length, ← ht1]
    clear hk hlt hg
    have ht3 := tabL_len (qN p t s) (j + 1)
    have e2 : (2 : Nat) ^ (j + 1) = 2 * 2 ^ j := by rw [Nat.pow_succ]; omega
    have hw := wrap_pow (t := t) (by omega) (by omega)
    by_cases hjt : j + 1 = t.toNat
    · have hd : ((L.length + L.length : Nat) : Int) = IntKind.i64.wrap (1 * 2 ^ min t.toNat IntKind.i64.bits) := by rw [hw, ← hjt]; omega
      rw [← hjt] at h'
      repeat ((conv => whnf) <;> first | with_reducible first | refine wI (by omega) ?_ | refine wQ (by omega) ?_ | refine And.intro rfl ?_ | rfl | refine And.intro ‹_› ?_ | refine cTe ‹_› ?_ | refine cFe ‹_› ?_ | refine cN (cTe ‹_› ?_) | refine cN (cFe ‹_› ?_) | refine cTe rfl ?_ | refine cEq ‹_› ?_ | refine cTt ?_ | refine cNt ?_ | refine cF (Eq.refl false) ?_ | refine cN (cF (Eq.refl false) ?_) | refine cTd (by omega) ?_ | refine cFd (by omega) ?_ | refine cN (cTd (by omega) ?_) | refine cN (cFd (by omega) ?_) | refine And.intro (by omega) ?_ | refine And.intro (Eq.refl true) ?_ | refine And.intro (Eq.refl (1 : Nat)) ?_)
      refine ⟨by show 0 < 24; omega, pts_sz _, ?_⟩
      (conv => whnf)
      exact h'
    · have hlt2 : 2 ^ (j + 1) < 2 ^ t.toNat := Nat.pow_lt_pow_right (by omega) (by omega)
      have hd : ¬ ((L.length + L.length : Nat) : Int) = IntKind.i64.wrap (1 * 2 ^ min t.toNat IntKind.i64.bits) := by rw [hw]; omega
      repeat ((conv => whnf) <;> first | with_reducible first | refine wI (by omega) ?_ | refine wQ (by omega) ?_ | refine And.intro rfl ?_ | rfl | refine And.intro ‹_› ?_ | refine cTe ‹_› ?_ | refine cFe ‹_› ?_ | refine cN (cTe ‹_› ?_) | refine cN (cFe ‹_› ?_) | refine cTe rfl ?_ | refine cEq ‹_› ?_ | refine cTt ?_ | refine cNt ?_ | refine cF (Eq.refl false) ?_ | refine cN (cF (Eq.refl false) ?_) | refine cTd (by omega) ?_ | refine cFd (by omega) ?_ | refine cN (cTd (by omega) ?_) | refine cN (cFd (by omega) ?_) | refine And.intro (by omega) ?_ | refine And.intro (Eq.refl true) ?_ | refine And.intro (Eq.refl (1 : Nat)) ?_)
      refine ⟨by show 0 < 24; omega, pts_sz _, ?_⟩
      (conv => whnf)
      exact ⟨_, Subs.refl' _, j + 1, ⟨by omega, zsN (by omega) rfl⟩, by show t.toNat - (j + 1) < t.toNat - j; omega⟩
theorem tb_newT_ok : Con Tryz.prog tb_newT.1 tb_newT.2 := con_tree tcH_ok o_newT [.agg [.whole 0 24], .atom (.var 1), .atom (.var 2)] 3 Tryz.func6 rfl c_newT aw_newT g_newT
end Go.Proofs.YtamgmkeoaaaliaaGreat
