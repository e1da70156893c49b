/- Chapter 9: laws -/
import Derived.Test.YtmhpagceheekcaaCdr
import Derived.Test.YtmhpagceheekcaaOpb
set_option linter.unusedSimpArgs false
set_option linter.unusedVariables false
namespace Go.Proofs.Ytmhpagceheekcaa
open Go.RowKit FdP FdP.Ch
theorem sub_fpt {g : G} {x y : F} (hx : g.x = x) (hy : g.y = y) : Sub (.agg [.fg x, .fg y, .fg (z 1)]) (.ob (.fpt g)) := by
  subst hx hy
  intro β v hv
  exact (way_fpt.shuts (b := .agg [.fg g.x, .fg g.y, .fg (z 1)]) ⟨_, _, _, rfl, Rep.of g⟩ hv.notup).2
def tb_is8S : FuncId × Trans := (tb_is8.1, tSub tb_is8.2)
theorem tb_is8S_ok : Con Try.prog tb_is8S.1 tb_is8S.2 := con_tSub tb_is8_ok
def b57 : List Int := List.replicate 57 0
set_option maxRecDepth 100000 in
theorem b57_x : DecOK b57 ∧ (decG b57).x = z (-1) ∧ (decG b57).y = 0 := by
  have e : yOf b57 = z 0 := by show z (bval (b57.take 56)) = z 0; rw [show bval (b57.take 56) = 0 from by decide +kernel]
  have hon : On (z (-1)) (z 0) := by decide +kernel
  have h := dX_uniq hon
  have ha : abs (z (-1)) = z (-1) := by decide +kernel
  rw [← e, ha] at h
  have hr : ratI (dU (yOf b57)) (dV (yOf b57)) := h.1
  have hx := decG_x hr
  refine ⟨⟨by decide +kernel, .inl (by decide +kernel), hr, fun g => absurd g.2 (by decide +kernel)⟩, ?_, ?_⟩
  · rw [hx.1]; unfold decX; rw [if_pos (by decide +kernel)]; exact h.2
  · rw [hx.2, e, z_zero]
theorem enc0 : (encB 0).getD (0 : Int).toNat 0 = 1 ∧ (encB 0).getD (56 : Int).toNat 0 = 0 := by decide +kernel
def tb_decPS : FuncId × Trans := (tb_decP.1, tSub tb_decP.2)
theorem tb_decPS_ok : Con Try.prog tb_decPS.1 tb_decPS.2 := con_tSub tb_decP_ok
def tabAw9 : Tab := tb_pid :: tb_enc :: tb_decPS :: tb_paff :: tb_int :: tb_equal :: tb_zero :: []
theorem tabAw9_ok : tabAw9.OK Try.prog := tab_cons tb_pid_ok <| tab_cons tb_enc_ok <| tab_cons tb_decPS_ok <| tab_cons tb_paff_ok <| tab_cons tb_int_ok <| tab_cons tb_equal_ok <| tab_cons tb_zero_ok <| tab_nil _
def o_awake9 : Orc := { ans := [(6, .one ⟨.leaf (.agg [.whole 0 24]), 1, []⟩), (7, .one ⟨.leaf (.atom (.var 0)), 1, []⟩), (9, .one ⟨.leaf (.atom (.var 0)), 1, []⟩), (10, .one ⟨.tup [.agg [.whole 0 24], .atom (.var 1)], 2, []⟩), (14, .one ⟨.leaf (.agg [.whole 0 24]), 1, []⟩), (15, .one ⟨.tup [.agg [.whole 0 8], .agg [.whole 1 8]], 2, []⟩), (19, .one ⟨.leaf (.atom (.var 0)), 1, []⟩), (20, .two ⟨.leaf (.atom (.const (.bool true))), 0, []⟩ ⟨.leaf (.atom (.const (.bool false))), 0, []⟩), (23, .one ⟨.leaf (.atom (.var 0)), 1, []⟩), (24, .one ⟨.leaf (.atom (.var 0)), 1, []⟩), (25, .two ⟨.leaf (.atom (.const (.bool true))), 0, []⟩ ⟨.leaf (.atom (.const (.bool false))), 0, []⟩), (26, .one ⟨.leaf (.atom (.var 0)), 1, []⟩), (29, .one ⟨.leaf (.atom (.var 0)), 1, []⟩), (30, .one ⟨.leaf (.atom (.var 0)), 1, []⟩), (31, .two ⟨.leaf (.atom (.const (.bool true))), 0, []⟩ ⟨.leaf (.atom (.const (.bool false))), 0, []⟩), (32, .one ⟨.leaf (.atom (.var 0)), 1, []⟩), (35, .two ⟨.leaf (.atom (.const (.bool true))), 0, []⟩ ⟨.leaf (.atom (.const (.bool false))), 0, []⟩), (36, .one ⟨.leaf (.atom (.var 0)), 1, []⟩), (38, .one ⟨.leaf (.agg [.whole 0 8]), 1, []⟩), (39, .one ⟨.leaf (.agg [.whole 0 8]), 1, []⟩), (40, .two ⟨.leaf (.atom (.const (.bool true))), 0, []⟩ ⟨.leaf (.atom (.const (.bool false))), 0, []⟩), (41, .one ⟨.leaf (.atom (.var 0)), 1, []⟩), (43, .one ⟨.leaf (.agg [.whole 0 8]), 1, []⟩), (44, .two ⟨.leaf (.atom (.const (.bool true))), 0, []⟩ ⟨.leaf (.atom (.const (.bool false))), 0, []⟩), (45, .one ⟨.leaf (.atom (.var 0)), 1, []⟩)], lps := [], ords := [(4, [.pure 0, .quiet 1, .quiet 2, .pure 3, .pure 4, .quiet 5, .quiet 6, .quiet 7, .quiet 8, .pure 9, .pure 10, .quiet 11, .quiet 12, .quiet 13, .quiet 14, .pure 15, .pure 16, .quiet 17, .quiet 18, .pure 19, .quiet 20, .call 21 [], .call 22 [], .quiet 23, .pure 24, .quiet 25, .call 26 [], .quiet 27, .pure 28])], rws := [9] }
def t_awake9 : Tree :=
  .call 28 [] ([], []) (.leaf (.agg [.whole 0 24])) 1 [] <|
  .call 25 [.agg [.whole 0 24]] ([], []) (.leaf (.atom (.var 1))) 1 [] <|
  .mkr [.lit [.int .u8 0, .int .u8 0, .int .u8 0, .int .u8 0, .int .u8 0, .int .u8 0, .int .u8 0, .int .u8 0, .int .u8 0, .int .u8 0, .int .u8 0, .int .u8 0, .int .u8 0, .int .u8 0, .int .u8 0, .int .u8 0, .int .u8 0, .int .u8 0, .int .u8 0, .int .u8 0, .int .u8 0, .int .u8 0, .int .u8 0, .int .u8 0, .int .u8 0, .int .u8 0, .int .u8 0, .int .u8 0, .int .u8 0, .int .u8 0, .int .u8 0, .int .u8 0, .int .u8 0, .int .u8 0, .int .u8 0, .int .u8 0, .int .u8 0, .int .u8 0, .int .u8 0, .int .u8 0, .int .u8 0, .int .u8 0, .int .u8 0, .int .u8 0, .int .u8 0, .int .u8 0, .int .u8 0, .int .u8 0, .int .u8 0, .int .u8 0, .int .u8 0, .int .u8 0, .int .u8 0, .int .u8 0, .int .u8 0, .int .u8 0, .int .u8 0]] 1 <|
  .frz 2 3 ([], [⟨2, 3, 5, 1⟩]) <|
  .call 9 [.atom (.var 2)] ([], []) (.tup [.agg [.whole 4 24], .atom (.var 5)]) 2 [] <|
  .new <|
  .call 18 [.agg [.whole 4 24]] ([], []) (.tup [.agg [.whole 6 8], .agg [.whole 7 8]]) 2 [] <|
  .new <|
  .new <|
  .calc (.call { callee := .builtin .len, args := #[.tmp 18], argTypes := #[22] }) 3 [(18, .leaf (.atom (.var 1)))] ([], []) (.leaf (.atom (.var 8))) 1 <|
  .calc2 (.binOp .eql 3 (.tmp 19) (.const (.int .i64 57)) 3) 4 [(19, .leaf (.atom (.var 8)))] ([], []) (.leaf (.atom (.const (.bool true)))) 0 (
    .calc (.indexAddr 22 (.tmp 22) (.const (.int .i64 0))) 0 [(22, .leaf (.atom (.var 1)))] ([], []) (.leaf (.atom (.var 9))) 1 <|
    .calc (.load 5 (.tmp 23)) 5 [(23, .leaf (.atom (.var 9)))] ([], []) (.leaf (.atom (.var 10))) 1 <|
    .calc2 (.binOp .eql 5 (.tmp 24) (.const (.int .u8 1)) 5) 4 [(24, .leaf (.atom (.var 10)))] ([], []) (.leaf (.atom (.const (.bool true)))) 0 (
      .calc (.indexAddr 22 (.tmp 28) (.const (.int .i64 56))) 0 [(28, .leaf (.atom (.var 1)))] ([], []) (.leaf (.atom (.var 11))) 1 <|
      .calc (.load 5 (.tmp 29)) 5 [(29, .leaf (.atom (.var 11)))] ([], []) (.leaf (.atom (.var 12))) 1 <|
      .calc2 (.binOp .eql 5 (.tmp 30) (.const (.int .u8 0)) 5) 4 [(30, .leaf (.atom (.var 12)))] ([], []) (.leaf (.atom (.const (.bool true)))) 0 (
        .calc2 (.binOp .eql 30 (.tmp 34) (.const (.int .i64 0)) 30) 4 [(34, .leaf (.atom (.var 5)))] ([], []) (.leaf (.atom (.const (.bool true)))) 0 (
          .call 16 [.atom (.const (.int .i64 (-1)))] ([], []) (.leaf (.agg [.whole 13 8])) 1 [] <|
          .call2 19 [.agg [.whole 6 8], .agg [.whole 13 8]] ([], []) (.leaf (.atom (.const (.bool true)))) 0 [] (
            .call2 20 [.agg [.whole 7 8]] ([], []) (.leaf (.atom (.const (.bool true)))) 0 [] (
              .ret ([], []) (.leaf (.atom (.const (.bool true))))) (.leaf (.atom (.const (.bool false)))) 0 [] <|
            .ret ([], []) (.leaf (.atom (.const (.bool false))))) (.leaf (.atom (.const (.bool false)))) 0 [] <|
          .ret ([], []) (.leaf (.atom (.const (.bool false))))) (.leaf (.atom (.const (.bool false)))) 0 <|
        .ret ([], []) (.leaf (.atom (.const (.bool false))))) (.leaf (.atom (.const (.bool false)))) 0 <|
      .ret ([], []) (.leaf (.atom (.const (.bool false))))) (.leaf (.atom (.const (.bool false)))) 0 <|
    .ret ([], []) (.leaf (.atom (.const (.bool false))))) (.leaf (.atom (.const (.bool false)))) 0 <|
  .ret ([], []) (.leaf (.atom (.const (.bool false))))
theorem c_awake9 : compF Try.prog Try.f8 o_awake9 (Try.f8.body.getD .skip) (symIn [] Try.f8.ntmps 0) = some t_awake9 := by kernel_rfl
theorem g_awake9 : goodC Try.prog o_awake9.ords (Try.f8.body.getD .skip) = true := by kernel_rfl
def tb_awake9 : FuncId × Trans := (8, tTrue)
set_option maxRecDepth 100000 in
theorem aw_awake9 : ∀ zs Q, tb_awake9.2 zs Q → bindLs 0 [] zs fun ae => bif Nat.beq ae.length 0 then AWp Try.prog tabAw9 Q t_awake9 [] ae else False := by
  intro zs Q h
  replace h : tTrue zs Q := h
  unfold tTrue at h
  split at h
  case h_2 => exact h.elim
  have hl := encB_len 0
  obtain ⟨g1, g2⟩ := enc0
  obtain ⟨hK, x1, x2⟩ := b57_x
  have mb : By b57 ∧ b57.length ≤ 100000 := by decide +kernel
  have h57 : b57.length = 57 := by decide +kernel
  have i1 : I64 (-1) := by unfold I64; omega
  repeat ((conv => whnf) <;> first | exact rfl | refine wI (by omega) ?_ | refine wB (by omega) ?_ | refine wR (by omega) ?_ | refine wQ (by omega) ?_ | with_reducible refine And.intro rfl ?_ | with_reducible refine And.intro (by assumption) ?_ | with_reducible refine cTe (by assumption) ?_ | with_reducible refine cFe (by assumption) ?_ | with_reducible refine cN (cTe (by assumption) ?_) | with_reducible refine cN (cFe (by assumption) ?_) | with_reducible refine cTe rfl ?_ | with_reducible refine cEq (by assumption) ?_ | with_reducible refine cTt ?_ | with_reducible refine cNt ?_ | with_reducible refine cF (Eq.refl false) ?_ | refine And.intro (fun hh => by first | (cases hh; done) | rfl) ?_ | refine And.intro (by omega) ?_ | refine cTd (by omega) ?_ | refine cFd (by omega) ?_ | refine cN (cTd (by omega) ?_) | refine cN (cFd (by omega) ?_) | refine And.intro (by simp only [AV.size, Nat.div_one, List.length_append, List.length_singleton]; omega) ?_)
  refine ⟨[.isl .u8 b57], ⟨Sub.refl' _, trivial⟩, ?_⟩
  generalize b57 = l57 at *
  (conv => whnf)
  refine ⟨mb, fun h => absurd h57 h, fun _ h => absurd hK h, fun _ _ => ?_⟩
  repeat ((conv => whnf) <;> first | exact rfl | refine wI (by omega) ?_ | refine wB (by omega) ?_ | refine wR (by omega) ?_ | refine wQ (by omega) ?_ | with_reducible refine And.intro rfl ?_ | with_reducible refine And.intro (by assumption) ?_ | with_reducible refine cTe (by assumption) ?_ | with_reducible refine cFe (by assumption) ?_ | with_reducible refine cN (cTe (by assumption) ?_) | with_reducible refine cN (cFe (by assumption) ?_) | with_reducible refine cTe rfl ?_ | with_reducible refine cEq (by assumption) ?_ | with_reducible refine cTt ?_ | with_reducible refine cNt ?_ | with_reducible refine cF (Eq.refl false) ?_ | refine And.intro (fun hh => by first | (cases hh; done) | rfl) ?_ | refine And.intro (by omega) ?_ | refine cTd (by omega) ?_ | refine cFd (by omega) ?_ | refine cN (cTd (by omega) ?_) | refine cN (cFd (by omega) ?_) | refine And.intro (by simp only [AV.size, Nat.div_one, List.length_append, List.length_singleton]; omega) ?_)
  (conv => whnf)
  exact h
theorem tb_awake9_ok : Con Try.prog tb_awake9.1 tb_awake9.2 := con_tree tabAw9_ok o_awake9 [] 0 Try.func8 rfl c_awake9 aw_awake9 g_awake9
def tbl9 : Tab := tb_awake9 :: tb_enc :: tb_decP :: tb_renc :: tb_rdec :: tb_madeS :: tb_plainS :: tb_is8S :: tb_bytesEq :: tb_pneg :: tb_paff :: tb_peq :: tb_zero :: []
theorem tbl9_ok : tbl9.OK Try.prog := tab_cons tb_awake9_ok <| tab_cons tb_enc_ok <| tab_cons tb_decP_ok <| tab_cons tb_renc_ok <| tab_cons tb_rdec_ok <| tab_cons tb_madeS_ok <| tab_cons tb_plainS_ok <| tab_cons tb_is8S_ok <| tab_cons tb_bytesEq_ok <| tab_cons tb_pneg_ok <| tab_cons tb_paff_ok <| tab_cons tb_peq_ok <| tab_cons tb_zero_ok <| tab_nil _
def o_cwrites : Orc := { ans := [(6, .one ⟨.leaf (.agg [.whole 0 57, .one (.var 1)]), 2, []⟩), (7, .two ⟨.tup [.agg [.whole 0 24], .atom (.const (.bool true))], 1, []⟩ ⟨.tup [.agg [.whole 0 24], .atom (.const (.bool false))], 1, []⟩), (12, .one ⟨.leaf (.agg [.whole 0 24]), 1, []⟩), (13, .one ⟨.leaf (.atom (.var 0)), 1, []⟩), (14, .one ⟨.leaf (.agg [.whole 0 57, .one (.var 1)]), 2, []⟩), (15, .one ⟨.leaf (.agg [.whole 0 48]), 1, []⟩), (16, .one ⟨.leaf (.atom (.var 0)), 1, []⟩), (17, .two ⟨.leaf (.atom (.const (.bool true))), 0, []⟩ ⟨.leaf (.atom (.const (.bool false))), 0, []⟩), (18, .one ⟨.leaf (.atom (.var 0)), 1, []⟩), (20, .two ⟨.leaf (.atom (.const (.bool true))), 0, []⟩ ⟨.leaf (.atom (.const (.bool false))), 0, []⟩), (21, .one ⟨.leaf (.atom (.var 0)), 1, []⟩)], lps := [], ords := [(2, [.pure 0, .pure 1, .quiet 2, .quiet 4, .call 3 [], .call 5 [], .call 6 [], .call 7 [], .quiet 8, .pure 9, .call 10 [], .quiet 11, .pure 12])] }
def t_cwrites : Tree :=
  .new <|
  .call2 23 [.agg [.whole 0 57, .one (.var 1)]] ([], []) (.tup [.agg [.whole 2 24], .atom (.const (.bool true))]) 1 [] (
    .new <|
    .call 25 [.agg [.whole 2 24]] ([], []) (.leaf (.atom (.var 3))) 1 [] <|
    .call 27 [.agg [.whole 0 57, .one (.var 1)]] ([], []) (.leaf (.agg [.whole 4 48])) 1 [] <|
    .call 26 [.agg [.whole 4 48]] ([], []) (.leaf (.atom (.var 5))) 1 [] <|
    .call2 24 [.atom (.var 3), .atom (.var 5)] ([], []) (.leaf (.atom (.const (.bool true)))) 0 [] (
      .call2 8 [] ([], []) (.leaf (.atom (.const (.bool true)))) 0 [] (
        .ret ([], []) (.leaf (.atom (.const (.bool true))))) (.leaf (.atom (.const (.bool false)))) 0 [] <|
      .ret ([], []) (.leaf (.atom (.const (.bool false))))) (.leaf (.atom (.const (.bool false)))) 0 [] <|
    .ret ([], []) (.leaf (.atom (.const (.bool false))))) (.tup [.agg [.whole 2 24], .atom (.const (.bool false))]) 1 [] <|
  .new <|
  .ret ([], []) (.leaf (.atom (.const (.bool false))))
theorem c_cwrites : compF Try.prog Try.f5 o_cwrites (Try.f5.body.getD .skip) (symIn [.agg [.whole 0 57, .one (.var 1)]] Try.f5.ntmps 2) = some t_cwrites := by kernel_rfl
theorem g_cwrites : goodC Try.prog o_cwrites.ords (Try.f5.body.getD .skip) = true := by kernel_rfl
set_option maxRecDepth 100000 in
set_option maxHeartbeats 1000000 in
theorem aw_cwrites (b1 : List Int) (lb1 : b1.length = 57) (yb1 : By b1) (n1 : Int) (r1 : I64 n1) : AWp Try.prog tbl9 (fun a => a = .bool true) t_cwrites [] [.ints .u8 b1, .int .i64 n1] := by
  have m1 := And.intro lb1 yb1
  have hl := encB_len (spotG b1 n1)
  repeat ((conv => whnf) <;> first | with_reducible rfl | with_reducible refine And.intro (by assumption) ?_ | with_reducible refine cTe (by assumption) ?_ | with_reducible refine cFe (by assumption) ?_ | with_reducible refine cN (cTe (by assumption) ?_) | with_reducible refine cN (cFe (by assumption) ?_) | with_reducible refine cTe rfl ?_ | with_reducible refine cEq (by assumption) ?_ | with_reducible refine cTt ?_ | with_reducible refine cNt ?_ | with_reducible refine cF (Eq.refl false) ?_ | with_reducible refine cN (cF (Eq.refl false) ?_) | with_reducible refine cTd (by omega) ?_ | with_reducible refine cFd (by omega) ?_ | with_reducible refine cN (cTd (by omega) ?_) | with_reducible refine cN (cFd (by omega) ?_) | with_reducible refine And.intro (fun hh : Option.isSome none = true => by cases hh) ?_ | with_reducible refine And.intro (by omega) ?_)
set_option maxRecDepth 100000 in
theorem cwrites_any (b1 : List Int) (lb1 : b1.length = 57) (yb1 : By b1) (n1 : Int) (r1 : I64 n1) (w : World) : Calls Try.prog 5 #[AG (ys b1 ++ [.int .i64 n1])] w (OutV (.bool true) w) :=
  law_tree tbl9_ok o_cwrites [.agg [.whole 0 57, .one (.var 1)]] [AG (ys b1), .int .i64 n1] [.ints .u8 b1, .int .i64 n1] Try.func5 rfl c_cwrites (by simp [Leaf.den, catS, Seg.den, Atom.den, cellsAt, AG, Value.cells]) (by intro x hx; simp only [List.mem_cons, List.not_mem_nil, or_false] at hx; subst hx <;> first | exact ok_spot rfl lb1 rfl rfl) ⟨_, _, rfl, arr_val b1, _, _, rfl, int_val n1, rfl⟩ g_cwrites (aw_cwrites b1 lb1 yb1 n1 r1)
def o_creads : Orc := { ans := [(8, .one ⟨.leaf (.atom (.var 0)), 1, []⟩), (9, .two ⟨.leaf (.atom (.const (.bool true))), 0, []⟩ ⟨.leaf (.atom (.const (.bool false))), 0, []⟩), (10, .two ⟨.leaf (.atom (.const (.bool true))), 0, []⟩ ⟨.leaf (.atom (.const (.bool false))), 0, []⟩), (13, .one ⟨.tup [.agg [.whole 0 24], .atom (.var 1)], 2, []⟩), (17, .one ⟨.leaf (.atom (.var 0)), 1, []⟩), (18, .two ⟨.leaf (.atom (.const (.bool true))), 0, []⟩ ⟨.leaf (.atom (.const (.bool false))), 0, []⟩), (20, .two ⟨.leaf (.atom (.const (.bool true))), 0, []⟩ ⟨.leaf (.atom (.const (.bool false))), 0, []⟩), (22, .two ⟨.leaf (.atom (.const (.bool true))), 0, []⟩ ⟨.leaf (.atom (.const (.bool false))), 0, []⟩), (23, .one ⟨.leaf (.atom (.var 0)), 1, []⟩), (26, .one ⟨.tup [.agg [.whole 0 48], .atom (.var 1)], 2, []⟩), (30, .one ⟨.leaf (.atom (.var 0)), 1, []⟩), (32, .two ⟨.leaf (.atom (.const (.bool true))), 0, []⟩ ⟨.leaf (.atom (.const (.bool false))), 0, []⟩), (34, .two ⟨.leaf (.atom (.const (.bool true))), 0, []⟩ ⟨.leaf (.atom (.const (.bool false))), 0, []⟩), (35, .one ⟨.leaf (.atom (.var 0)), 1, []⟩), (37, .two ⟨.leaf (.atom (.const (.bool true))), 0, []⟩ ⟨.leaf (.atom (.const (.bool false))), 0, []⟩), (39, .one ⟨.leaf (.agg [.whole 0 24]), 1, []⟩), (40, .one ⟨.leaf (.agg [.whole 0 48]), 1, []⟩), (41, .two ⟨.leaf (.atom (.const (.bool true))), 0, []⟩ ⟨.leaf (.atom (.const (.bool false))), 0, []⟩), (42, .one ⟨.leaf (.atom (.var 0)), 1, []⟩), (44, .two ⟨.leaf (.atom (.const (.bool true))), 0, []⟩ ⟨.leaf (.atom (.const (.bool false))), 0, []⟩), (45, .one ⟨.leaf (.atom (.var 0)), 1, []⟩)], lps := [] }
def t_creads : Tree :=
  .calc (.call { callee := .builtin .len, args := #[.tmp 7], argTypes := #[22] }) 3 [(7, .leaf (.atom (.var 0)))] ([], []) (.leaf (.atom (.var 1))) 1 <|
  .calc2 (.binOp .gtr 3 (.tmp 8) (.const (.int .i64 80)) 3) 4 [(8, .leaf (.atom (.var 1)))] ([], []) (.leaf (.atom (.const (.bool true)))) 0 (
    .call2 8 [] ([], []) (.leaf (.atom (.const (.bool true)))) 0 [] (
      .ret ([], []) (.leaf (.atom (.const (.bool true))))) (.leaf (.atom (.const (.bool false)))) 0 [] <|
    .ret ([], []) (.leaf (.atom (.const (.bool false))))) (.leaf (.atom (.const (.bool false)))) 0 <|
  .call 9 [.atom (.var 0)] ([], []) (.tup [.agg [.whole 2 24], .atom (.var 3)]) 2 [] <|
  .new <|
  .calc (.call { callee := .builtin .len, args := #[.tmp 16], argTypes := #[22] }) 3 [(16, .leaf (.atom (.var 0)))] ([], []) (.leaf (.atom (.var 4))) 1 <|
  .calc2 (.binOp .neq 3 (.tmp 17) (.const (.int .i64 57)) 3) 4 [(17, .leaf (.atom (.var 4)))] ([], []) (.leaf (.atom (.const (.bool true)))) 0 (
    .calc2 (.binOp .eql 30 (.tmp 19) (.const (.int .i64 11)) 30) 4 [(19, .leaf (.atom (.var 3)))] ([], []) (.leaf (.atom (.const (.bool true)))) 0 (
      .call2 8 [] ([], []) (.leaf (.atom (.const (.bool true)))) 0 [] (
        .ret ([], []) (.leaf (.atom (.const (.bool true))))) (.leaf (.atom (.const (.bool false)))) 0 [] <|
      .ret ([], []) (.leaf (.atom (.const (.bool false))))) (.leaf (.atom (.const (.bool false)))) 0 <|
    .ret ([], []) (.leaf (.atom (.const (.bool false))))) (.leaf (.atom (.const (.bool false)))) 0 <|
  .call 10 [.atom (.var 0)] ([], []) (.tup [.agg [.whole 5 48], .atom (.var 6)]) 2 [] <|
  .new <|
  .calc (.unOp .not 4 (.tmp 29)) 4 [(29, .leaf (.atom (.var 6)))] ([], []) (.leaf (.atom (.var 7))) 1 <|
  .ite (.var 7) (
    .calc2 (.binOp .eql 30 (.tmp 31) (.const (.int .i64 13)) 30) 4 [(31, .leaf (.atom (.var 3)))] ([], []) (.leaf (.atom (.const (.bool true)))) 0 (
      .call2 8 [] ([], []) (.leaf (.atom (.const (.bool true)))) 0 [] (
        .ret ([], []) (.leaf (.atom (.const (.bool true))))) (.leaf (.atom (.const (.bool false)))) 0 [] <|
      .ret ([], []) (.leaf (.atom (.const (.bool false))))) (.leaf (.atom (.const (.bool false)))) 0 <|
    .ret ([], []) (.leaf (.atom (.const (.bool false))))) <|
  .calc2 (.binOp .eql 30 (.tmp 36) (.const (.int .i64 0)) 30) 4 [(36, .leaf (.atom (.var 3)))] ([], []) (.leaf (.atom (.const (.bool true)))) 0 (
    .call2 11 [.agg [.whole 2 24], .agg [.whole 5 48]] ([], []) (.leaf (.atom (.const (.bool true)))) 0 [] (
      .call2 8 [] ([], []) (.leaf (.atom (.const (.bool true)))) 0 [] (
        .ret ([], []) (.leaf (.atom (.const (.bool true))))) (.leaf (.atom (.const (.bool false)))) 0 [] <|
      .ret ([], []) (.leaf (.atom (.const (.bool false))))) (.leaf (.atom (.const (.bool false)))) 0 [] <|
    .ret ([], []) (.leaf (.atom (.const (.bool false))))) (.leaf (.atom (.const (.bool false)))) 0 <|
  .ret ([], []) (.leaf (.atom (.const (.bool false))))
theorem c_creads : compF Try.prog Try.f3 o_creads (Try.f3.body.getD .skip) (symIn [.atom (.var 0)] Try.f3.ntmps 1) = some t_creads := by kernel_rfl
theorem g_creads : goodC Try.prog o_creads.ords (Try.f3.body.getD .skip) = true := by kernel_rfl
set_option maxRecDepth 100000 in
set_option maxHeartbeats 1000000 in
theorem aw_creads (b1 : List Int) (yb1 : By b1) : AWp Try.prog tbl9 (fun a => a = .bool true) t_creads [] [.isl .u8 b1] := by
  by_cases h80 : (b1.length : Int) > 80
  · repeat ((conv => whnf) <;> first | with_reducible rfl | with_reducible refine And.intro (by assumption) ?_ | with_reducible refine cTe (by assumption) ?_ | with_reducible refine cFe (by assumption) ?_ | with_reducible refine cN (cTe (by assumption) ?_) | with_reducible refine cN (cFe (by assumption) ?_) | with_reducible refine cTe rfl ?_ | with_reducible refine cEq (by assumption) ?_ | with_reducible refine cTt ?_ | with_reducible refine cNt ?_ | with_reducible refine cF (Eq.refl false) ?_ | with_reducible refine cN (cF (Eq.refl false) ?_) | with_reducible refine cTd (by omega) ?_ | with_reducible refine cFd (by omega) ?_ | with_reducible refine cN (cTd (by omega) ?_) | with_reducible refine cN (cFd (by omega) ?_) | with_reducible refine And.intro (fun hh : Option.isSome none = true => by cases hh) ?_ | with_reducible refine And.intro (by omega) ?_)
  have mb : By b1 ∧ b1.length ≤ 100000 := ⟨yb1, by omega⟩
  by_cases h57 : b1.length = 57
  · have mc : By b1 ∧ b1.length = 57 := ⟨yb1, h57⟩
    by_cases hK : DecOK b1
    · have hx := decG_x hK.2.2.1
      repeat ((conv => whnf) <;> first | with_reducible rfl | with_reducible refine And.intro (by assumption) ?_ | with_reducible refine cTe (by assumption) ?_ | with_reducible refine cFe (by assumption) ?_ | with_reducible refine cN (cTe (by assumption) ?_) | with_reducible refine cN (cFe (by assumption) ?_) | with_reducible refine cTe rfl ?_ | with_reducible refine cEq (by assumption) ?_ | with_reducible refine cTt ?_ | with_reducible refine cNt ?_ | with_reducible refine cF (Eq.refl false) ?_ | with_reducible refine cN (cF (Eq.refl false) ?_) | with_reducible refine cTd (by omega) ?_ | with_reducible refine cFd (by omega) ?_ | with_reducible refine cN (cTd (by omega) ?_) | with_reducible refine cN (cFd (by omega) ?_) | with_reducible refine And.intro (fun hh : Option.isSome none = true => by cases hh) ?_ | with_reducible refine And.intro (by omega) ?_)
      refine ⟨fun _ h => absurd hK h, fun _ _ => ?_⟩
      repeat ((conv => whnf) <;> first | with_reducible rfl | with_reducible refine And.intro (by assumption) ?_ | with_reducible refine cTe (by assumption) ?_ | with_reducible refine cFe (by assumption) ?_ | with_reducible refine cN (cTe (by assumption) ?_) | with_reducible refine cN (cFe (by assumption) ?_) | with_reducible refine cTe rfl ?_ | with_reducible refine cEq (by assumption) ?_ | with_reducible refine cTt ?_ | with_reducible refine cNt ?_ | with_reducible refine cF (Eq.refl false) ?_ | with_reducible refine cN (cF (Eq.refl false) ?_) | with_reducible refine cTd (by omega) ?_ | with_reducible refine cFd (by omega) ?_ | with_reducible refine cN (cTd (by omega) ?_) | with_reducible refine cN (cFd (by omega) ?_) | with_reducible refine And.intro (fun hh : Option.isSome none = true => by cases hh) ?_ | with_reducible refine And.intro (by omega) ?_)
      refine ⟨fun h => absurd hK h, fun _ => ?_⟩
      repeat ((conv => whnf) <;> first | with_reducible rfl | with_reducible refine And.intro (by assumption) ?_ | with_reducible refine cTe (by assumption) ?_ | with_reducible refine cFe (by assumption) ?_ | with_reducible refine cN (cTe (by assumption) ?_) | with_reducible refine cN (cFe (by assumption) ?_) | with_reducible refine cTe rfl ?_ | with_reducible refine cEq (by assumption) ?_ | with_reducible refine cTt ?_ | with_reducible refine cNt ?_ | with_reducible refine cF (Eq.refl false) ?_ | with_reducible refine cN (cF (Eq.refl false) ?_) | with_reducible refine cTd (by omega) ?_ | with_reducible refine cFd (by omega) ?_ | with_reducible refine cN (cTd (by omega) ?_) | with_reducible refine cN (cFd (by omega) ?_) | with_reducible refine And.intro (fun hh : Option.isSome none = true => by cases hh) ?_ | with_reducible refine And.intro (by omega) ?_)
      refine ⟨[.ob (.pt (decG b1)), .ob (.fpt (decG b1))], ⟨Sub.refl' _, sub_fpt hx.1 hx.2, trivial⟩, ?_⟩
      repeat ((conv => whnf) <;> first | with_reducible rfl | with_reducible refine And.intro (by assumption) ?_ | with_reducible refine cTe (by assumption) ?_ | with_reducible refine cFe (by assumption) ?_ | with_reducible refine cN (cTe (by assumption) ?_) | with_reducible refine cN (cFe (by assumption) ?_) | with_reducible refine cTe rfl ?_ | with_reducible refine cEq (by assumption) ?_ | with_reducible refine cTt ?_ | with_reducible refine cNt ?_ | with_reducible refine cF (Eq.refl false) ?_ | with_reducible refine cN (cF (Eq.refl false) ?_) | with_reducible refine cTd (by omega) ?_ | with_reducible refine cFd (by omega) ?_ | with_reducible refine cN (cTd (by omega) ?_) | with_reducible refine cN (cFd (by omega) ?_) | with_reducible refine And.intro (fun hh : Option.isSome none = true => by cases hh) ?_ | with_reducible refine And.intro (by omega) ?_)
    · repeat ((conv => whnf) <;> first | with_reducible rfl | with_reducible refine And.intro (by assumption) ?_ | with_reducible refine cTe (by assumption) ?_ | with_reducible refine cFe (by assumption) ?_ | with_reducible refine cN (cTe (by assumption) ?_) | with_reducible refine cN (cFe (by assumption) ?_) | with_reducible refine cTe rfl ?_ | with_reducible refine cEq (by assumption) ?_ | with_reducible refine cTt ?_ | with_reducible refine cNt ?_ | with_reducible refine cF (Eq.refl false) ?_ | with_reducible refine cN (cF (Eq.refl false) ?_) | with_reducible refine cTd (by omega) ?_ | with_reducible refine cFd (by omega) ?_ | with_reducible refine cN (cTd (by omega) ?_) | with_reducible refine cN (cFd (by omega) ?_) | with_reducible refine And.intro (fun hh : Option.isSome none = true => by cases hh) ?_ | with_reducible refine And.intro (by omega) ?_)
      refine ⟨fun _ _ => ?_, fun _ g => absurd g hK⟩
      repeat ((conv => whnf) <;> first | with_reducible rfl | with_reducible refine And.intro (by assumption) ?_ | with_reducible refine cTe (by assumption) ?_ | with_reducible refine cFe (by assumption) ?_ | with_reducible refine cN (cTe (by assumption) ?_) | with_reducible refine cN (cFe (by assumption) ?_) | with_reducible refine cTe rfl ?_ | with_reducible refine cEq (by assumption) ?_ | with_reducible refine cTt ?_ | with_reducible refine cNt ?_ | with_reducible refine cF (Eq.refl false) ?_ | with_reducible refine cN (cF (Eq.refl false) ?_) | with_reducible refine cTd (by omega) ?_ | with_reducible refine cFd (by omega) ?_ | with_reducible refine cN (cTd (by omega) ?_) | with_reducible refine cN (cFd (by omega) ?_) | with_reducible refine And.intro (fun hh : Option.isSome none = true => by cases hh) ?_ | with_reducible refine And.intro (by omega) ?_)
      refine ⟨fun _ => ?_, fun h => absurd h hK⟩
      repeat ((conv => whnf) <;> first | with_reducible rfl | with_reducible refine And.intro (by assumption) ?_ | with_reducible refine cTe (by assumption) ?_ | with_reducible refine cFe (by assumption) ?_ | with_reducible refine cN (cTe (by assumption) ?_) | with_reducible refine cN (cFe (by assumption) ?_) | with_reducible refine cTe rfl ?_ | with_reducible refine cEq (by assumption) ?_ | with_reducible refine cTt ?_ | with_reducible refine cNt ?_ | with_reducible refine cF (Eq.refl false) ?_ | with_reducible refine cN (cF (Eq.refl false) ?_) | with_reducible refine cTd (by omega) ?_ | with_reducible refine cFd (by omega) ?_ | with_reducible refine cN (cTd (by omega) ?_) | with_reducible refine cN (cFd (by omega) ?_) | with_reducible refine And.intro (fun hh : Option.isSome none = true => by cases hh) ?_ | with_reducible refine And.intro (by omega) ?_)
  · repeat ((conv => whnf) <;> first | with_reducible rfl | with_reducible refine And.intro (by assumption) ?_ | with_reducible refine cTe (by assumption) ?_ | with_reducible refine cFe (by assumption) ?_ | with_reducible refine cN (cTe (by assumption) ?_) | with_reducible refine cN (cFe (by assumption) ?_) | with_reducible refine cTe rfl ?_ | with_reducible refine cEq (by assumption) ?_ | with_reducible refine cTt ?_ | with_reducible refine cNt ?_ | with_reducible refine cF (Eq.refl false) ?_ | with_reducible refine cN (cF (Eq.refl false) ?_) | with_reducible refine cTd (by omega) ?_ | with_reducible refine cFd (by omega) ?_ | with_reducible refine cN (cTd (by omega) ?_) | with_reducible refine cN (cFd (by omega) ?_) | with_reducible refine And.intro (fun hh : Option.isSome none = true => by cases hh) ?_ | with_reducible refine And.intro (by omega) ?_)
    refine ⟨fun _ => ?_, fun h _ => absurd h h57, fun h _ => absurd h h57⟩
    repeat ((conv => whnf) <;> first | with_reducible rfl | with_reducible refine And.intro (by assumption) ?_ | with_reducible refine cTe (by assumption) ?_ | with_reducible refine cFe (by assumption) ?_ | with_reducible refine cN (cTe (by assumption) ?_) | with_reducible refine cN (cFe (by assumption) ?_) | with_reducible refine cTe rfl ?_ | with_reducible refine cEq (by assumption) ?_ | with_reducible refine cTt ?_ | with_reducible refine cNt ?_ | with_reducible refine cF (Eq.refl false) ?_ | with_reducible refine cN (cF (Eq.refl false) ?_) | with_reducible refine cTd (by omega) ?_ | with_reducible refine cFd (by omega) ?_ | with_reducible refine cN (cTd (by omega) ?_) | with_reducible refine cN (cFd (by omega) ?_) | with_reducible refine And.intro (fun hh : Option.isSome none = true => by cases hh) ?_ | with_reducible refine And.intro (by omega) ?_)
set_option maxRecDepth 100000 in
theorem creads_any (b1 : List Int) (yb1 : By b1) (v1 : Value) (w : World) (s1 : Bv w v1 b1) : Calls Try.prog 3 #[v1] w (OutV (.bool true) w) :=
  law_tree tbl9_ok o_creads [.atom (.var 0)] [v1] [.isl .u8 b1] Try.func3 rfl c_creads rfl (by intro x hx; simp only [List.mem_cons, List.not_mem_nil, or_false] at hx; subst hx <;> first | exact ok_one rfl (bv_one s1)) ⟨_, _, rfl, bv_val s1, rfl⟩ g_creads (aw_creads b1 yb1)
end Go.Proofs.Ytmhpagceheekcaa
