/- CombAdds -/
import Derived.Test.YtamgmkeoaaaliaaCmi
import Derived.Test.YtamgmkeoaaaliaaDge
import Derived.Test.YtamgmkeoaaaliaaCme
import Derived.Test.YtamgmkeoaaaliaaCma
import Derived.Test.YtamgmkeoaaaliaaOpf
set_option linter.unusedSimpArgs false
set_option linter.unusedVariables false
namespace Go.Proofs.Ytamgmkeoaaaliaa
open Go.RowKit FdP FdP.Ch
def tFilled : Trans := fun zs Q => match zs with
  | [.isl .u8 b] => (By b ∧ b.length ≤ 14) ∧ Q (.isl .u8 (fillB b))
  | _ => False
theorem zsFl {l l' : List Int} {i i' : Int} (hl : l = l') (hi : i = i') : [AV.ints .u8 l, .int .i64 i] = [.ints .u8 l', .int .i64 i'] := by rw [hl, hi]
def o_filled : Orc := { ans := [(5, oV), (8, oV), (9, oB), (12, oB), (13, oV), (20, oV), (21, oV), (22, oV), (15, oV)], lps := [(0, [.cont 3 5 1, .slot 4 [.one]])], rws := [5] }
def t_filled : Tree :=
  .mkr [.lit [.int .u8 0, .int .u8 0, .int .u8 0, .int .u8 0, .int .u8 0, .int .u8 0, .int .u8 0, .int .u8 0, .int .u8 0, .int .u8 0, .int .u8 0, .int .u8 0, .int .u8 0, .int .u8 0]] 1 <|
  .loop [.agg [.rest 2], .atom (.const (.int .i64 0))] [.row, .one] <|
  .calc (.call { callee := .builtin .len, args := #[.tmp 7], argTypes := #[25] }) 3 [(7, .leaf (.atom (.var 0)))] ([], []) (.leaf (.atom (.var 5))) 1 <|
  .calc2 (.binOp .lss 3 (.tmp 6) (.tmp 8) 3) 4 [(6, .leaf (.atom (.var 4))), (8, .leaf (.atom (.var 5)))] ([], []) (.leaf (.atom (.const (.bool true)))) 0 (
    .calc2 (.binOp .lss 3 (.tmp 11) (.const (.int .i64 14)) 3) 4 [(11, .leaf (.atom (.var 4)))] ([], []) (.leaf (.atom (.const (.bool true)))) 0 (
      .calc (.indexAddr 25 (.tmp 18) (.tmp 19)) 0 [(18, .leaf (.atom (.var 0))), (19, .leaf (.atom (.var 4)))] ([], []) (.leaf (.atom (.var 6))) 1 <|
      .calc (.load 5 (.tmp 20)) 5 [(20, .leaf (.atom (.var 6)))] ([], []) (.leaf (.atom (.var 7))) 1 <|
      .boundx 4 1 <|
      .sti [.rest 3] 0 4 1 1 [.one (.var 7)] <|
      .calc (.binOp .add 3 (.tmp 14) (.const (.int .i64 1)) 3) 3 [(14, .leaf (.atom (.var 4)))] ([], []) (.leaf (.atom (.var 9))) 1 <|
      .again 0 [.agg [.rest 8], .atom (.var 9)]) (.leaf (.atom (.const (.bool false)))) 0 <|
    .ret ([], [⟨1, 3, 5, 1⟩]) (.leaf (.atom (.var 1)))) (.leaf (.atom (.const (.bool false)))) 0 <|
  .ret ([], [⟨1, 3, 5, 1⟩]) (.leaf (.atom (.var 1)))
theorem c_filled : compF Try.prog Try.f26 o_filled (Try.f26.body.getD .skip) (symIn [.atom (.var 0)] Try.f26.ntmps 1) = some t_filled := by kernel_rfl
theorem g_filled : goodC Try.prog o_filled.ords (Try.f26.body.getD .skip) = true := by kernel_rfl
def tb_filled : FuncId × Trans := (26, tFilled)
set_option maxRecDepth 100000 in
theorem aw_filled : ∀ zs Q, tb_filled.2 zs Q → bindLs 0 [.atom (.var 0)] zs fun ae => bif Nat.beq ae.length 1 then AWp Try.prog tcNil Q t_filled [] ae else False := by
  intro zs Q h
  replace h : tFilled zs Q := h
  unfold tFilled at h
  split at h
  case h_2 => exact h.elim
  rename_i b
  obtain ⟨⟨hb, hl⟩, h⟩ := h
  (conv => whnf)
  have hs0 : (AV.ints .u8 [0, 0, 0, 0, 0, 0, 0, 0, 0, 0, 0, 0, 0, 0]).size = 14 := rfl
  refine ⟨Nat, fun i zs => i ≤ b.length ∧ zs = [.ints .u8 (b.take i ++ List.replicate (14 - i) 0), .int .i64 (i : Int)], fun i => b.length - i, 0, ?_, ?_⟩
  · (conv => whnf)
    exact ⟨_, Subs.refl' _, Nat.zero_le _, zsFl rfl rfl⟩
  rintro i _ ⟨hi, rfl⟩
  have hll : (b.take i ++ List.replicate (14 - i) 0).length = 14 := by rw [List.length_append, List.length_take, List.length_replicate]; omega
  by_cases hlt : i < b.length
  · have hst := fill_step hlt hl
    have e0 : 0 + ((i : Nat) : Int).toNat * 1 = i := by omega
    have e2 : ((i : Nat) : Int).toNat = i := rfl
    have hg := by_getD' hb i
    repeat ((conv => whnf) <;> first | with_reducible first | refine wI (by omega) ?_ | refine wB (by omega) ?_ | refine And.intro rfl ?_ | rfl | refine And.intro ‹_› ?_ | refine cTe ‹_› ?_ | refine cFe ‹_› ?_ | refine cN (cTe ‹_› ?_) | refine cN (cFe ‹_› ?_) | refine cTe rfl ?_ | refine cEq ‹_› ?_ | refine cTt ?_ | refine cNt ?_ | refine cF (Eq.refl false) ?_ | refine cN (cF (Eq.refl false) ?_) | refine cTd (by omega) ?_ | refine cFd (by omega) ?_ | refine cN (cTd (by omega) ?_) | refine cN (cFd (by omega) ?_) | refine And.intro (by omega) ?_ | refine And.intro (Eq.refl true) ?_ | refine And.intro (Eq.refl (1 : Nat)) ?_)
    (conv => whnf)
    exact ⟨_, Subs.refl' _, i + 1, ⟨by omega, zsFl (by rw [e0, e2]; exact hst) (by omega)⟩, by show b.length - (i + 1) < b.length - i; omega⟩
  · obtain rfl : i = b.length := by omega
    repeat ((conv => whnf) <;> first | with_reducible first | refine wI (by omega) ?_ | refine wB (by omega) ?_ | refine And.intro rfl ?_ | rfl | refine And.intro ‹_› ?_ | refine cTe ‹_› ?_ | refine cFe ‹_› ?_ | refine cN (cTe ‹_› ?_) | refine cN (cFe ‹_› ?_) | refine cTe rfl ?_ | refine cEq ‹_› ?_ | refine cTt ?_ | refine cNt ?_ | refine cF (Eq.refl false) ?_ | refine cN (cF (Eq.refl false) ?_) | refine cTd (by omega) ?_ | refine cFd (by omega) ?_ | refine cN (cTd (by omega) ?_) | refine cN (cFd (by omega) ?_) | refine And.intro (by omega) ?_ | refine And.intro (Eq.refl true) ?_ | refine And.intro (Eq.refl (1 : Nat)) ?_)
    (conv => whnf)
    rw [List.take_length]
    exact h
theorem tb_filled_ok : Con Try.prog tb_filled.1 tb_filled.2 := con_tree tcNil_ok o_filled [.atom (.var 0)] 1 Try.func26 rfl c_filled aw_filled g_filled
def tcT : Tab := tb_awake11 :: tb_made11 :: tb_radd3 :: tb_newT :: tb_filled :: tb_tmul :: tb_padd :: tb_peq :: []
theorem tcT_ok : tcT.OK Try.prog := tab_cons tb_awake11_ok <| tab_cons tb_made11_ok <| tab_cons tb_radd3_ok <| tab_cons tb_newT_ok <| tab_cons tb_filled_ok <| tab_cons tb_tmul_ok <| tab_cons tb_padd_ok <| tab_cons tb_peq_ok <| tab_nil _
def o_combadds : Orc := { ans := [(24, .one ⟨.leaf (.agg [.one (.var 0), .one (.var 1)]), 2, []⟩), (25, .two ⟨.tup [.agg [.whole 0 24], .agg [.whole 1 48], .atom (.const (.bool true))], 2, []⟩ ⟨.tup [.agg [.whole 0 24], .agg [.whole 1 48], .atom (.const (.bool false))], 2, []⟩), (30, oV), (32, oV), (33, oV), (34, oV), (35, oB), (36, oV), (38, oV), (39, oV), (40, oV), (41, oB), (42, oV), (45, oB), (46, oV), (49, oB), (50, oV), (51, oB), (52, oV), (53, oV), (54, oV), (55, oV), (56, oV), (58, oV), (59, oB), (61, .one ⟨.leaf (.agg [.whole 0 24]), 1, []⟩), (63, .one ⟨.tup [.atom (.var 0), .atom (.var 1)], 2, []⟩), (67, .one ⟨.leaf (.agg [.whole 0 24]), 1, []⟩), (68, .one ⟨.tup [.atom (.var 0), .atom (.var 1)], 2, []⟩), (72, oB), (75, oB), (76, oV), (79, oB), (80, oV), (83, oB), (84, oV), (87, oV), (88, oV), (89, oV), (90, .one ⟨.tup [.agg [.whole 0 24], .atom (.var 1)], 2, []⟩), (95, oV), (96, oV), (97, oV), (98, .one ⟨.tup [.agg [.whole 0 24], .atom (.var 1)], 2, []⟩), (104, oV), (105, .one ⟨.tup [.agg [.whole 0 24], .atom (.var 1)], 2, []⟩), (111, oV), (112, .one ⟨.tup [.agg [.whole 0 24], .atom (.var 1)], 2, []⟩), (116, oB), (119, oB), (120, oV), (123, oB), (124, oV), (127, oB), (128, oV), (130, .one ⟨.leaf (.agg [.whole 0 24]), 1, []⟩), (131, .one ⟨.leaf (.agg [.whole 0 24]), 1, []⟩), (132, .one ⟨.leaf (.agg [.whole 0 24]), 1, []⟩), (133, .one ⟨.leaf (.agg [.whole 0 24]), 1, []⟩), (134, oB), (135, oV), (137, .one ⟨.leaf (.agg [.whole 0 24]), 1, []⟩), (138, .one ⟨.leaf (.agg [.whole 0 24]), 1, []⟩), (139, oB), (140, oV), (142, oB), (143, oV)], lps := [], ords := [(15, [.pure 0, .quiet 1, .pure 2, .pure 3, .quiet 4, .quiet 5, .pure 6, .pure 7, .quiet 8, .quiet 9, .pure 10, .pure 11, .quiet 12, .quiet 13, .pure 14, .quiet 15, .quiet 16, .quiet 18, .call 17 [], .call 19 [], .quiet 20, .pure 21, .quiet 22, .quiet 23, .call 24 [], .quiet 25, .pure 26, .call 27 [], .quiet 28, .pure 29])] }
def t_combadds : Tree :=
  .new <|
  .new <|
  .call2 18 [.agg [.one (.var 0), .one (.var 1)]] ([], []) (.tup [.agg [.whole 5 24], .agg [.whole 6 48], .atom (.const (.bool true))]) 2 [] (
    .new <|
    .new <|
    .calc (.call { callee := .builtin .len, args := #[.tmp 33], argTypes := #[25] }) 3 [(33, .leaf (.atom (.var 2)))] ([], []) (.leaf (.atom (.var 7))) 1 <|
    .calc2 (.binOp .gtr 3 (.tmp 34) (.const (.int .i64 12)) 3) 4 [(34, .leaf (.atom (.var 7)))] ([], []) (.leaf (.atom (.const (.bool true)))) 0 (
      .call2 10 [] ([], []) (.leaf (.atom (.const (.bool true)))) 0 [] (
        .ret ([], []) (.leaf (.atom (.const (.bool true))))) (.leaf (.atom (.const (.bool false)))) 0 [] <|
      .ret ([], []) (.leaf (.atom (.const (.bool false))))) (.leaf (.atom (.const (.bool false)))) 0 <|
    .calc (.call { callee := .builtin .len, args := #[.tmp 39], argTypes := #[25] }) 3 [(39, .leaf (.atom (.var 3)))] ([], []) (.leaf (.atom (.var 8))) 1 <|
    .calc2 (.binOp .gtr 3 (.tmp 40) (.const (.int .i64 12)) 3) 4 [(40, .leaf (.atom (.var 8)))] ([], []) (.leaf (.atom (.const (.bool true)))) 0 (
      .call2 10 [] ([], []) (.leaf (.atom (.const (.bool true)))) 0 [] (
        .ret ([], []) (.leaf (.atom (.const (.bool true))))) (.leaf (.atom (.const (.bool false)))) 0 [] <|
      .ret ([], []) (.leaf (.atom (.const (.bool false))))) (.leaf (.atom (.const (.bool false)))) 0 <|
    .calc2 (.binOp .lss 3 (.tmp 44) (.const (.int .i64 1)) 3) 4 [(44, .leaf (.atom (.var 4)))] ([], []) (.leaf (.atom (.const (.bool true)))) 0 (
      .call2 10 [] ([], []) (.leaf (.atom (.const (.bool true)))) 0 [] (
        .ret ([], []) (.leaf (.atom (.const (.bool true))))) (.leaf (.atom (.const (.bool false)))) 0 [] <|
      .ret ([], []) (.leaf (.atom (.const (.bool false))))) (.leaf (.atom (.const (.bool false)))) 0 <|
    .calc2 (.binOp .gtr 3 (.tmp 48) (.const (.int .i64 5)) 3) 4 [(48, .leaf (.atom (.var 4)))] ([], []) (.leaf (.atom (.const (.bool true)))) 0 (
      .call2 10 [] ([], []) (.leaf (.atom (.const (.bool true)))) 0 [] (
        .ret ([], []) (.leaf (.atom (.const (.bool true))))) (.leaf (.atom (.const (.bool false)))) 0 [] <|
      .ret ([], []) (.leaf (.atom (.const (.bool false))))) (.leaf (.atom (.const (.bool false)))) 0 <|
    .call 25 [.atom (.var 2), .atom (.var 3)] ([], []) (.leaf (.atom (.var 9))) 1 [] <|
    .calc (.call { callee := .builtin .len, args := #[.tmp 57], argTypes := #[25] }) 3 [(57, .leaf (.atom (.var 9)))] ([], []) (.leaf (.atom (.var 10))) 1 <|
    .calc2 (.binOp .gtr 3 (.tmp 58) (.const (.int .i64 14)) 3) 4 [(58, .leaf (.atom (.var 10)))] ([], []) (.leaf (.atom (.const (.bool true)))) 0 (
      .ret ([], []) (.leaf (.atom (.const (.bool false))))) (.leaf (.atom (.const (.bool false)))) 0 <|
    .call 23 [.agg [.whole 5 24], .atom (.var 4), .atom (.const (.int .i64 14))] ([], []) (.tup [.atom (.var 11), .atom (.var 12)]) 2 [] <|
    .call 23 [.agg [.whole 5 24], .atom (.const (.int .i64 1)), .atom (.const (.int .i64 14))] ([], []) (.tup [.atom (.var 13), .atom (.var 14)]) 2 [] <|
    .calc2 (.binOp .neq 33 (.tmp 71) (.const (.int .i64 0)) 33) 4 [(71, .leaf (.atom (.var 12)))] ([], []) (.leaf (.atom (.const (.bool true)))) 0 (
      .ret ([], []) (.leaf (.atom (.const (.bool false))))) (.leaf (.atom (.const (.bool false)))) 0 <|
    .calc2 (.binOp .neq 33 (.tmp 74) (.const (.int .i64 0)) 33) 4 [(74, .leaf (.atom (.var 14)))] ([], []) (.leaf (.atom (.const (.bool true)))) 0 (
      .ret ([], []) (.leaf (.atom (.const (.bool false))))) (.leaf (.atom (.const (.bool false)))) 0 <|
    .calc2 (.binOp .eql 26 (.tmp 78) (.const (.pointer none)) 26) 4 [(78, .leaf (.atom (.var 11)))] ([], []) (.leaf (.atom (.const (.bool true)))) 0 (
      .ret ([], []) (.leaf (.atom (.const (.bool false))))) (.leaf (.atom (.const (.bool false)))) 0 <|
    .calc2 (.binOp .eql 26 (.tmp 82) (.const (.pointer none)) 26) 4 [(82, .leaf (.atom (.var 13)))] ([], []) (.leaf (.atom (.const (.bool true)))) 0 (
      .ret ([], []) (.leaf (.atom (.const (.bool false))))) (.leaf (.atom (.const (.bool false)))) 0 <|
    .call 26 [.atom (.var 2)] ([], []) (.leaf (.atom (.var 15))) 1 [] <|
    .call 12 [.atom (.var 11), .atom (.var 15)] ([], []) (.tup [.agg [.whole 16 24], .atom (.var 17)]) 2 [] <|
    .new <|
    .call 26 [.atom (.var 3)] ([], []) (.leaf (.atom (.var 18))) 1 [] <|
    .call 12 [.atom (.var 11), .atom (.var 18)] ([], []) (.tup [.agg [.whole 19 24], .atom (.var 20)]) 2 [] <|
    .new <|
    .call 26 [.atom (.var 9)] ([], []) (.leaf (.atom (.var 21))) 1 [] <|
    .call 12 [.atom (.var 11), .atom (.var 21)] ([], []) (.tup [.agg [.whole 22 24], .atom (.var 23)]) 2 [] <|
    .new <|
    .call 26 [.atom (.var 9)] ([], []) (.leaf (.atom (.var 24))) 1 [] <|
    .call 12 [.atom (.var 13), .atom (.var 24)] ([], []) (.tup [.agg [.whole 25 24], .atom (.var 26)]) 2 [] <|
    .new <|
    .calc2 (.binOp .eql 33 (.tmp 115) (.const (.int .i64 0)) 33) 4 [(115, .leaf (.atom (.var 17)))] ([], []) (.leaf (.atom (.const (.bool true)))) 0 (
      .calc2 (.binOp .eql 33 (.tmp 118) (.const (.int .i64 0)) 33) 4 [(118, .leaf (.atom (.var 20)))] ([], []) (.leaf (.atom (.const (.bool true)))) 0 (
        .calc2 (.binOp .eql 33 (.tmp 122) (.const (.int .i64 0)) 33) 4 [(122, .leaf (.atom (.var 23)))] ([], []) (.leaf (.atom (.const (.bool true)))) 0 (
          .calc2 (.binOp .eql 33 (.tmp 126) (.const (.int .i64 0)) 33) 4 [(126, .leaf (.atom (.var 26)))] ([], []) (.leaf (.atom (.const (.bool true)))) 0 (
            .call 27 [.agg [.whole 16 24], .agg [.whole 19 24]] ([], []) (.leaf (.agg [.whole 27 24])) 1 [] <|
            .call2 17 [.agg [.whole 27 24], .agg [.whole 22 24]] ([], []) (.leaf (.atom (.const (.bool true)))) 0 [] (
              .call2 17 [.agg [.whole 22 24], .agg [.whole 25 24]] ([], []) (.leaf (.atom (.const (.bool true)))) 0 [] (
                .call2 10 [] ([], []) (.leaf (.atom (.const (.bool true)))) 0 [] (
                  .ret ([], []) (.leaf (.atom (.const (.bool true))))) (.leaf (.atom (.const (.bool false)))) 0 [] <|
                .ret ([], []) (.leaf (.atom (.const (.bool false))))) (.leaf (.atom (.const (.bool false)))) 0 [] <|
              .ret ([], []) (.leaf (.atom (.const (.bool false))))) (.leaf (.atom (.const (.bool false)))) 0 [] <|
            .ret ([], []) (.leaf (.atom (.const (.bool false))))) (.leaf (.atom (.const (.bool false)))) 0 <|
          .ret ([], []) (.leaf (.atom (.const (.bool false))))) (.leaf (.atom (.const (.bool false)))) 0 <|
        .ret ([], []) (.leaf (.atom (.const (.bool false))))) (.leaf (.atom (.const (.bool false)))) 0 <|
      .ret ([], []) (.leaf (.atom (.const (.bool false))))) (.leaf (.atom (.const (.bool false)))) 0 <|
    .ret ([], []) (.leaf (.atom (.const (.bool false))))) (.tup [.agg [.whole 5 24], .agg [.whole 6 48], .atom (.const (.bool false))]) 2 [] <|
  .new <|
  .new <|
  .call2 10 [] ([], []) (.leaf (.atom (.const (.bool true)))) 0 [] (
    .ret ([], []) (.leaf (.atom (.const (.bool true))))) (.leaf (.atom (.const (.bool false)))) 0 [] <|
  .ret ([], []) (.leaf (.atom (.const (.bool false))))
theorem c_combadds : compF Try.prog Try.f8 o_combadds (Try.f8.body.getD .skip) (symIn [.agg [.one (.var 0), .one (.var 1)], .agg [.one (.var 2), .one (.var 3)], .atom (.var 4)] Try.f8.ntmps 5) = some t_combadds := by kernel_rfl
theorem g_combadds : goodC Try.prog o_combadds.ords (Try.f8.body.getD .skip) = true := by kernel_rfl
set_option maxRecDepth 100000 in
set_option maxHeartbeats 1000000 in
theorem aw_combadds (b1 : List Int) (yb1 : By b1) (n1 : Int) (r1 : I64 n1) (b2 : List Int) (yb2 : By b2) (c2 : List Int) (yc2 : By c2) (n3 : Int) (r3 : I64 n3) : AWp Try.prog tcT (fun a => a = .bool true) t_combadds [] [.isl .u8 b1, .int .i64 n1, .isl .u8 b2, .isl .u8 c2, .int .i64 n3] := by
  repeat ((conv => whnf) <;> first | with_reducible first | refine wI (by omega) ?_ | refine wB (by omega) ?_ | refine And.intro rfl ?_ | rfl | refine And.intro ‹_› ?_ | refine cTe ‹_› ?_ | refine cFe ‹_› ?_ | refine cN (cTe ‹_› ?_) | refine cN (cFe ‹_› ?_) | refine cTe rfl ?_ | refine cEq ‹_› ?_ | refine cTt ?_ | refine cNt ?_ | refine cF (Eq.refl false) ?_ | refine cN (cF (Eq.refl false) ?_) | refine cTd (by omega) ?_ | refine cFd (by omega) ?_ | refine cN (cTd (by omega) ?_) | refine cN (cFd (by omega) ?_) | refine And.intro (by omega) ?_ | refine And.intro (Eq.refl true) ?_)
  refine ⟨fun hh => by repeat ((conv => whnf) <;> first | with_reducible first | refine wI (by omega) ?_ | refine wB (by omega) ?_ | refine And.intro rfl ?_ | rfl | refine And.intro ‹_› ?_ | refine cTe ‹_› ?_ | refine cFe ‹_› ?_ | refine cN (cTe ‹_› ?_) | refine cN (cFe ‹_› ?_) | refine cTe rfl ?_ | refine cEq ‹_› ?_ | refine cTt ?_ | refine cNt ?_ | refine cF (Eq.refl false) ?_ | refine cN (cF (Eq.refl false) ?_) | refine cTd (by omega) ?_ | refine cFd (by omega) ?_ | refine cN (cTd (by omega) ?_) | refine cN (cFd (by omega) ?_) | refine And.intro (by omega) ?_ | refine And.intro (Eq.refl true) ?_), fun k1 k2 k3 => ?_⟩
  generalize sgG b1 n1 = g
  by_cases a1 : (b2.length : Int) > 12
  · repeat ((conv => whnf) <;> first | with_reducible first | refine wI (by omega) ?_ | refine wB (by omega) ?_ | refine And.intro rfl ?_ | rfl | refine And.intro ‹_› ?_ | refine cTe ‹_› ?_ | refine cFe ‹_› ?_ | refine cN (cTe ‹_› ?_) | refine cN (cFe ‹_› ?_) | refine cTe rfl ?_ | refine cEq ‹_› ?_ | refine cTt ?_ | refine cNt ?_ | refine cF (Eq.refl false) ?_ | refine cN (cF (Eq.refl false) ?_) | refine cTd (by omega) ?_ | refine cFd (by omega) ?_ | refine cN (cTd (by omega) ?_) | refine cN (cFd (by omega) ?_) | refine And.intro (by omega) ?_ | refine And.intro (Eq.refl true) ?_)
  by_cases a2 : (c2.length : Int) > 12
  · repeat ((conv => whnf) <;> first | with_reducible first | refine wI (by omega) ?_ | refine wB (by omega) ?_ | refine And.intro rfl ?_ | rfl | refine And.intro ‹_› ?_ | refine cTe ‹_› ?_ | refine cFe ‹_› ?_ | refine cN (cTe ‹_› ?_) | refine cN (cFe ‹_› ?_) | refine cTe rfl ?_ | refine cEq ‹_› ?_ | refine cTt ?_ | refine cNt ?_ | refine cF (Eq.refl false) ?_ | refine cN (cF (Eq.refl false) ?_) | refine cTd (by omega) ?_ | refine cFd (by omega) ?_ | refine cN (cTd (by omega) ?_) | refine cN (cFd (by omega) ?_) | refine And.intro (by omega) ?_ | refine And.intro (Eq.refl true) ?_)
  by_cases a3 : n3 < 1
  · repeat ((conv => whnf) <;> first | with_reducible first | refine wI (by omega) ?_ | refine wB (by omega) ?_ | refine And.intro rfl ?_ | rfl | refine And.intro ‹_› ?_ | refine cTe ‹_› ?_ | refine cFe ‹_› ?_ | refine cN (cTe ‹_› ?_) | refine cN (cFe ‹_› ?_) | refine cTe rfl ?_ | refine cEq ‹_› ?_ | refine cTt ?_ | refine cNt ?_ | refine cF (Eq.refl false) ?_ | refine cN (cF (Eq.refl false) ?_) | refine cTd (by omega) ?_ | refine cFd (by omega) ?_ | refine cN (cTd (by omega) ?_) | refine cN (cFd (by omega) ?_) | refine And.intro (by omega) ?_ | refine And.intro (Eq.refl true) ?_)
  by_cases a4 : n3 > 5
  · repeat ((conv => whnf) <;> first | with_reducible first | refine wI (by omega) ?_ | refine wB (by omega) ?_ | refine And.intro rfl ?_ | rfl | refine And.intro ‹_› ?_ | refine cTe ‹_› ?_ | refine cFe ‹_› ?_ | refine cN (cTe ‹_› ?_) | refine cN (cFe ‹_› ?_) | refine cTe rfl ?_ | refine cEq ‹_› ?_ | refine cTt ?_ | refine cNt ?_ | refine cF (Eq.refl false) ?_ | refine cN (cF (Eq.refl false) ?_) | refine cTd (by omega) ?_ | refine cFd (by omega) ?_ | refine cN (cTd (by omega) ?_) | refine cN (cFd (by omega) ?_) | refine And.intro (by omega) ?_ | refine And.intro (Eq.refl true) ?_)
  have ha : By b2 ∧ By c2 ∧ b2.length ≤ 100000 ∧ c2.length ≤ 100000 := ⟨yb2, yc2, by omega, by omega⟩
  obtain ⟨s1, s2, s3⟩ := sum_cut yb2 yc2
  have s4 : mxl b2 c2 ≤ 12 := by unfold mxl; split <;> omega
  obtain ⟨f1, f2, f3⟩ := fillB_ok yb2 (by omega)
  obtain ⟨g1, g2, g3⟩ := fillB_ok yc2 (by omega)
  obtain ⟨h1, h2, h3⟩ := fillB_ok s2 (by omega)
  have m1 : By b2 ∧ b2.length ≤ 14 := ⟨yb2, by omega⟩
  have m2 : By c2 ∧ c2.length ≤ 14 := ⟨yc2, by omega⟩
  have m3 : By (cutL (addL b2 c2)) ∧ (cutL (addL b2 c2)).length ≤ 14 := ⟨s2, by omega⟩
  have e1 : mulG (nval (fillB b2)) g + mulG (nval (fillB c2)) g = mulG (nval (fillB (cutL (addL b2 c2)))) g := by rw [f1, g1, h1, s1, mulG_add]
  repeat ((conv => whnf) <;> first | with_reducible first | refine wI (by omega) ?_ | refine wB (by omega) ?_ | refine And.intro rfl ?_ | rfl | refine And.intro ‹_› ?_ | refine cTe ‹_› ?_ | refine cFe ‹_› ?_ | refine cN (cTe ‹_› ?_) | refine cN (cFe ‹_› ?_) | refine cTe rfl ?_ | refine cEq ‹_› ?_ | refine cTt ?_ | refine cNt ?_ | refine cF (Eq.refl false) ?_ | refine cN (cF (Eq.refl false) ?_) | refine cTd (by omega) ?_ | refine cFd (by omega) ?_ | refine cN (cTd (by omega) ?_) | refine cN (cFd (by omega) ?_) | refine And.intro (by omega) ?_ | refine And.intro (Eq.refl true) ?_)
  intro _ _ _ _
  repeat ((conv => whnf) <;> first | with_reducible first | refine wI (by omega) ?_ | refine wB (by omega) ?_ | refine And.intro rfl ?_ | rfl | refine And.intro ‹_› ?_ | refine cTe ‹_› ?_ | refine cFe ‹_› ?_ | refine cN (cTe ‹_› ?_) | refine cN (cFe ‹_› ?_) | refine cTe rfl ?_ | refine cEq ‹_› ?_ | refine cTt ?_ | refine cNt ?_ | refine cF (Eq.refl false) ?_ | refine cN (cF (Eq.refl false) ?_) | refine cTd (by omega) ?_ | refine cFd (by omega) ?_ | refine cN (cTd (by omega) ?_) | refine cN (cFd (by omega) ?_) | refine And.intro (by omega) ?_ | refine And.intro (Eq.refl true) ?_)
  intro _ _ _ _
  repeat ((conv => whnf) <;> first | with_reducible first | refine wI (by omega) ?_ | refine wB (by omega) ?_ | refine And.intro rfl ?_ | rfl | refine And.intro ‹_› ?_ | refine cTe ‹_› ?_ | refine cFe ‹_› ?_ | refine cN (cTe ‹_› ?_) | refine cN (cFe ‹_› ?_) | refine cTe rfl ?_ | refine cEq ‹_› ?_ | refine cTt ?_ | refine cNt ?_ | refine cF (Eq.refl false) ?_ | refine cN (cF (Eq.refl false) ?_) | refine cTd (by omega) ?_ | refine cFd (by omega) ?_ | refine cN (cTd (by omega) ?_) | refine cN (cFd (by omega) ?_) | refine And.intro (by omega) ?_ | refine And.intro (Eq.refl true) ?_)
  refine ⟨g, rfl, ⟨f2, by omega, by omega, by omega, by omega, by omega⟩, fun hh => absurd (by omega) hh, fun _ => ?_⟩
  repeat ((conv => whnf) <;> first | with_reducible first | refine wI (by omega) ?_ | refine wB (by omega) ?_ | refine And.intro rfl ?_ | rfl | refine And.intro ‹_› ?_ | refine cTe ‹_› ?_ | refine cFe ‹_› ?_ | refine cN (cTe ‹_› ?_) | refine cN (cFe ‹_› ?_) | refine cTe rfl ?_ | refine cEq ‹_› ?_ | refine cTt ?_ | refine cNt ?_ | refine cF (Eq.refl false) ?_ | refine cN (cF (Eq.refl false) ?_) | refine cTd (by omega) ?_ | refine cFd (by omega) ?_ | refine cN (cTd (by omega) ?_) | refine cN (cFd (by omega) ?_) | refine And.intro (by omega) ?_ | refine And.intro (Eq.refl true) ?_)
  refine ⟨g, rfl, ⟨g2, by omega, by omega, by omega, by omega, by omega⟩, fun hh => absurd (by omega) hh, fun _ => ?_⟩
  repeat ((conv => whnf) <;> first | with_reducible first | refine wI (by omega) ?_ | refine wB (by omega) ?_ | refine And.intro rfl ?_ | rfl | refine And.intro ‹_› ?_ | refine cTe ‹_› ?_ | refine cFe ‹_› ?_ | refine cN (cTe ‹_› ?_) | refine cN (cFe ‹_› ?_) | refine cTe rfl ?_ | refine cEq ‹_› ?_ | refine cTt ?_ | refine cNt ?_ | refine cF (Eq.refl false) ?_ | refine cN (cF (Eq.refl false) ?_) | refine cTd (by omega) ?_ | refine cFd (by omega) ?_ | refine cN (cTd (by omega) ?_) | refine cN (cFd (by omega) ?_) | refine And.intro (by omega) ?_ | refine And.intro (Eq.refl true) ?_)
  refine ⟨g, rfl, ⟨h2, by omega, by omega, by omega, by omega, by omega⟩, fun hh => absurd (by omega) hh, fun _ => ?_⟩
  repeat ((conv => whnf) <;> first | with_reducible first | refine wI (by omega) ?_ | refine wB (by omega) ?_ | refine And.intro rfl ?_ | rfl | refine And.intro ‹_› ?_ | refine cTe ‹_› ?_ | refine cFe ‹_› ?_ | refine cN (cTe ‹_› ?_) | refine cN (cFe ‹_› ?_) | refine cTe rfl ?_ | refine cEq ‹_› ?_ | refine cTt ?_ | refine cNt ?_ | refine cF (Eq.refl false) ?_ | refine cN (cF (Eq.refl false) ?_) | refine cTd (by omega) ?_ | refine cFd (by omega) ?_ | refine cN (cTd (by omega) ?_) | refine cN (cFd (by omega) ?_) | refine And.intro (by omega) ?_ | refine And.intro (Eq.refl true) ?_)
  refine ⟨g, rfl, ⟨h2, by omega, by omega, by omega, by omega, by omega⟩, fun hh => absurd (by omega) hh, fun _ => ?_⟩
  repeat ((conv => whnf) <;> first | with_reducible first | refine wI (by omega) ?_ | refine wB (by omega) ?_ | refine And.intro rfl ?_ | rfl | refine And.intro ‹_› ?_ | refine cTe ‹_› ?_ | refine cFe ‹_› ?_ | refine cN (cTe ‹_› ?_) | refine cN (cFe ‹_› ?_) | refine cTe rfl ?_ | refine cEq ‹_› ?_ | refine cTt ?_ | refine cNt ?_ | refine cF (Eq.refl false) ?_ | refine cN (cF (Eq.refl false) ?_) | refine cTd (by omega) ?_ | refine cFd (by omega) ?_ | refine cN (cTd (by omega) ?_) | refine cN (cFd (by omega) ?_) | refine And.intro (by omega) ?_ | refine And.intro (Eq.refl true) ?_)
set_option maxRecDepth 100000 in
theorem combadds_any (b1 : List Int) (yb1 : By b1) (v1 : Value) (n1 : Int) (r1 : I64 n1) (b2 : List Int) (yb2 : By b2) (v2 : Value) (c2 : List Int) (yc2 : By c2) (u2 : Value) (n3 : Int) (r3 : I64 n3) (w : World) (s1 : Bv w v1 b1) (s2 : Bv w v2 b2) (z2 : Bv w u2 c2) : Calls Try.prog 8 #[AG [v1, .int .i64 n1], AG [v2, u2], .int .i64 n3] w (OutV (.bool true) w) :=
  law_tree tcT_ok o_combadds [.agg [.one (.var 0), .one (.var 1)], .agg [.one (.var 2), .one (.var 3)], .atom (.var 4)] [v1, .int .i64 n1, v2, u2, .int .i64 n3] [.isl .u8 b1, .int .i64 n1, .isl .u8 b2, .isl .u8 c2, .int .i64 n3] Try.func8 rfl c_combadds (by simp [Leaf.den, catS, Seg.den, Atom.den, cellsAt, AG, Value.cells]) (by intro x hx; simp only [List.mem_cons, List.not_mem_nil, or_false] at hx; rcases hx with rfl | rfl | rfl <;> first | exact ok_two (v := v1) (v' := .int .i64 n1) rfl (bv_one s1) rfl rfl | exact ok_two (v := v2) (v' := u2) rfl (bv_one s2) rfl (bv_one z2) | exact ok_one rfl rfl) ⟨_, _, rfl, bv_val s1, _, _, rfl, int_val n1, ⟨_, _, rfl, bv_val s2, _, _, rfl, bv_val z2, ⟨_, _, rfl, int_val n3, rfl⟩⟩⟩ g_combadds (aw_combadds b1 yb1 n1 r1 b2 yb2 c2 yc2 n3 r3)
end Go.Proofs.Ytamgmkeoaaaliaa
