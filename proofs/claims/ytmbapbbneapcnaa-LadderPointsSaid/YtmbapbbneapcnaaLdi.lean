/- Chapter 10: LadderPoints -/
import Derived.Test.YtmbapbbneapcnaaLde
import Derived.Test.YtmbapbbneapcnaaPnw
set_option linter.unusedSimpArgs false
set_option linter.unusedVariables false
namespace Go.Proofs.Ytmbapbbneapcnaa
open Go.RowKit FdP FdP.Ch
theorem spot_ex10 : ∃ f : List Int → Int → G, ∀ l n, f l n = mulG (nval l) BG + mulG (quart n) TG := ⟨_, fun _ _ => rfl⟩
noncomputable def spotL : List Int → Int → G := spot_ex10.choose
theorem spotL_eq (l : List Int) (n : Int) : spotL l n = mulG (nval l) BG + mulG (quart n) TG := spot_ex10.choose_spec l n
def tMadeL : Trans := fun zs Q => match zs with
  | [.agg [.ints .u8 l, .int .i64 n]] => (l.length = 57 ∧ By l) ∧ Q (.tup [.ob (.pt (spotL l n)), .bool true])
  | _ => False
def tb_madeL : FuncId × Trans := (tb_made8.1, tMadeL)
theorem tb_madeL_ok : Con Try.prog tb_madeL.1 tb_madeL.2 := fun w x vals zs Q hx hv hg => by
  replace hg : tMadeL zs Q := hg
  unfold tMadeL at hg
  split at hg
  · rw [spotL_eq] at hg
    exact tb_made8_ok w x vals _ Q hx hv hg
  · exact hg.elim
theorem uP_ex : ∃ f : G → F, f = uP := ⟨_, rfl⟩
noncomputable def uO : G → F := uP_ex.choose
theorem uO_eq : uO = uP := uP_ex.choose_spec
def tU10 : Trans := fun zs Q => match zs with
  | [.ob (.pt g)] => Q (.el (uO g))
  | _ => False
def tjS : Tab := tb_paff :: tb_square :: tb_inverse :: tb_mul :: []
theorem tjS_ok : tjS.OK Try.prog := tab_cons tb_paff_ok <| tab_cons tb_square_ok <| tab_cons tb_inverse_ok <| tab_cons tb_mul_ok <| tab_nil _
def o_u10 : Orc := { ans := [(6, .one ⟨.leaf (.agg [.whole 0 24]), 1, []⟩), (7, .one ⟨.tup [.agg [.whole 0 8], .agg [.whole 1 8]], 2, []⟩), (10, .one ⟨.leaf (.agg [.whole 0 8]), 1, []⟩), (11, .one ⟨.leaf (.agg [.whole 0 8]), 1, []⟩), (12, .one ⟨.leaf (.agg [.whole 0 8]), 1, []⟩), (13, .one ⟨.leaf (.agg [.whole 0 8]), 1, []⟩), (14, .one ⟨.leaf (.agg [.whole 0 8]), 1, []⟩), (15, .one ⟨.leaf (.agg [.whole 0 8]), 1, []⟩)], lps := [], ords := [(2, [.quiet 0, .quiet 2, .call 1 [], .call 3 [], .call 4 [], .call 5 [], .last 6])] }
def t_u10 : Tree :=
  .new <|
  .new <|
  .call 61 [.agg [.whole 0 24]] ([], []) (.tup [.agg [.whole 1 8], .agg [.whole 2 8]]) 2 [] <|
  .new <|
  .new <|
  .call 38 [.agg [.whole 2 8]] ([], []) (.leaf (.agg [.whole 3 8])) 1 [] <|
  .call 38 [.agg [.whole 1 8]] ([], []) (.leaf (.agg [.whole 4 8])) 1 [] <|
  .call 45 [.agg [.whole 4 8]] ([], []) (.leaf (.agg [.whole 5 8])) 1 [] <|
  .call 37 [.agg [.whole 3 8], .agg [.whole 5 8]] ([], []) (.leaf (.agg [.whole 6 8])) 1 [] <|
  .ret ([], []) (.leaf (.agg [.whole 6 8]))
theorem c_u10 : compF Try.prog Try.f33 o_u10 (Try.f33.body.getD .skip) (symIn [.agg [.whole 0 24]] Try.f33.ntmps 1) = some t_u10 := by kernel_rfl
theorem g_u10 : goodC Try.prog o_u10.ords (Try.f33.body.getD .skip) = true := by kernel_rfl
def tb_u10 : FuncId × Trans := (33, tU10)
set_option maxRecDepth 100000 in
theorem aw_u10 : ∀ zs Q, tb_u10.2 zs Q → bindLs 0 [.agg [.whole 0 24]] zs fun ae => bif Nat.beq ae.length 1 then AWp Try.prog tjS Q t_u10 [] ae else False := by
  intro zs Q h
  replace h : tU10 zs Q := h
  unfold tU10 at h
  split at h
  case h_2 => exact h.elim
  rw [uO_eq] at h
  repeat ((conv => whnf) <;> first | exact rfl | refine wI (by omega) ?_ | refine wB (by omega) ?_ | refine wR (by omega) ?_ | refine wQ (by omega) ?_ | with_reducible refine And.intro rfl ?_ | with_reducible refine And.intro (by assumption) ?_ | with_reducible refine cTe (by assumption) ?_ | with_reducible refine cFe (by assumption) ?_ | with_reducible refine cN (cTe (by assumption) ?_) | with_reducible refine cN (cFe (by assumption) ?_) | with_reducible refine cTe rfl ?_ | with_reducible refine cEq (by assumption) ?_ | with_reducible refine cTt ?_ | with_reducible refine cNt ?_ | with_reducible refine cF (Eq.refl false) ?_ | refine And.intro (fun hh => by first | (cases hh; done) | rfl) ?_ | refine And.intro (by omega) ?_ | refine cTd (by omega) ?_ | refine cFd (by omega) ?_ | refine cN (cTd (by omega) ?_) | refine cN (cFd (by omega) ?_) | refine And.intro (by simp only [AV.size, Nat.div_one, List.length_append, List.length_singleton]; omega) ?_)
  (conv => whnf)
  exact h
theorem tb_u10_ok : Con Try.prog tb_u10.1 tb_u10.2 := con_tree tjS_ok o_u10 [.agg [.whole 0 24]] 1 Try.func33 rfl c_u10 aw_u10 g_u10
theorem nval_1 {a : Int} (ha : 0 ≤ a) : nval [a] = a.toNat := by
  unfold nval
  show (a + 256 * 0).toNat = _
  rw [Int.mul_zero, Int.add_zero]
theorem uO_lad (g : G) (n : Nat) : ladU (uO g) n = uO (mulG n g) := by rw [uO_eq]; exact ladU_point g n
theorem zsU {i i' : Int} {g g' : G} (h : i = i') (h' : g = g') : [AV.int .i64 i, .ob (.pt g)] = [.int .i64 i', .ob (.pt g')] := by rw [h, h']
def tjT : Tab := tb_awake10 :: tb_madeL :: tb_pid :: tb_padd :: tb_u10 :: tb_ladderS :: tb_equal :: []
theorem tjT_ok : tjT.OK Try.prog := tab_cons tb_awake10_ok <| tab_cons tb_madeL_ok <| tab_cons tb_pid_ok <| tab_cons tb_padd_ok <| tab_cons tb_u10_ok <| tab_cons tb_ladderS_ok <| tab_cons tb_equal_ok <| tab_nil _
def o_lpoints : Orc := { ans := [(12, .one ⟨.leaf (.agg [.whole 0 57, .one (.var 1)]), 2, []⟩), (13, .one ⟨.tup [.agg [.whole 0 24], .atom (.const (.bool true))], 1, []⟩), (17, .one ⟨.leaf (.atom (.var 0)), 1, []⟩), (20, .two ⟨.leaf (.atom (.const (.bool true))), 0, []⟩ ⟨.leaf (.atom (.const (.bool false))), 0, []⟩), (21, .one ⟨.leaf (.atom (.var 0)), 1, []⟩), (24, .two ⟨.leaf (.atom (.const (.bool true))), 0, []⟩ ⟨.leaf (.atom (.const (.bool false))), 0, []⟩), (25, .one ⟨.leaf (.atom (.var 0)), 1, []⟩), (28, .two ⟨.leaf (.atom (.const (.bool true))), 0, []⟩ ⟨.leaf (.atom (.const (.bool false))), 0, []⟩), (29, .one ⟨.leaf (.atom (.var 0)), 1, []⟩), (30, .one ⟨.leaf (.agg [.whole 0 24]), 1, []⟩), (33, .two ⟨.leaf (.atom (.const (.bool true))), 0, []⟩ ⟨.leaf (.atom (.const (.bool false))), 0, []⟩), (36, .one ⟨.leaf (.agg [.whole 0 24]), 1, []⟩), (37, .one ⟨.leaf (.agg [.whole 0 24]), 1, []⟩), (38, .one ⟨.leaf (.agg [.whole 0 24]), 1, []⟩), (35, .one ⟨.leaf (.atom (.var 0)), 1, []⟩), (41, .one ⟨.leaf (.atom (.var 0)), 1, []⟩), (43, .one ⟨.leaf (.agg [.whole 0 24]), 1, []⟩), (44, .one ⟨.leaf (.agg [.whole 0 8]), 1, []⟩), (45, .one ⟨.tup [.agg [.whole 0 8], .atom (.var 1)], 2, []⟩), (49, .two ⟨.leaf (.atom (.const (.bool true))), 0, []⟩ ⟨.leaf (.atom (.const (.bool false))), 0, []⟩), (51, .one ⟨.leaf (.agg [.whole 0 8]), 1, []⟩), (52, .one ⟨.leaf (.agg [.whole 0 24]), 1, []⟩), (53, .one ⟨.leaf (.agg [.whole 0 8]), 1, []⟩), (54, .two ⟨.leaf (.atom (.const (.bool true))), 0, []⟩ ⟨.leaf (.atom (.const (.bool false))), 0, []⟩), (55, .one ⟨.leaf (.atom (.var 0)), 1, []⟩), (57, .two ⟨.leaf (.atom (.const (.bool true))), 0, []⟩ ⟨.leaf (.atom (.const (.bool false))), 0, []⟩), (58, .one ⟨.leaf (.atom (.var 0)), 1, []⟩)], lps := [(0, [.slot 8 [.one], .blk 2 [.agg 24]])], ords := [(10, [.pure 0, .quiet 1, .pure 2, .quiet 3, .quiet 4, .call 5 [], .call 6 [], .quiet 7, .pure 8, .call 9 [], .quiet 10, .pure 11])] }
def t_lpoints : Tree :=
  .new <|
  .call 30 [.agg [.whole 0 57, .one (.var 1)]] ([], []) (.tup [.agg [.whole 3 24], .atom (.const (.bool true))]) 1 [] <|
  .new <|
  .calc2 (.binOp .lss 3 (.tmp 19) (.const (.int .i64 0)) 3) 4 [(19, .leaf (.atom (.var 2)))] ([], []) (.leaf (.atom (.const (.bool true)))) 0 (
    .call2 15 [] ([], []) (.leaf (.atom (.const (.bool true)))) 0 [] (
      .ret ([], []) (.leaf (.atom (.const (.bool true))))) (.leaf (.atom (.const (.bool false)))) 0 [] <|
    .ret ([], []) (.leaf (.atom (.const (.bool false))))) (.leaf (.atom (.const (.bool false)))) 0 <|
  .calc2 (.binOp .gtr 3 (.tmp 23) (.const (.int .i64 255)) 3) 4 [(23, .leaf (.atom (.var 2)))] ([], []) (.leaf (.atom (.const (.bool true)))) 0 (
    .call2 15 [] ([], []) (.leaf (.atom (.const (.bool true)))) 0 [] (
      .ret ([], []) (.leaf (.atom (.const (.bool true))))) (.leaf (.atom (.const (.bool false)))) 0 [] <|
    .ret ([], []) (.leaf (.atom (.const (.bool false))))) (.leaf (.atom (.const (.bool false)))) 0 <|
  .call 31 [] ([], []) (.leaf (.agg [.whole 4 24])) 1 [] <|
  .new <|
  .loop [.atom (.const (.int .i64 0)), .agg [.whole 4 24]] [.one, .agg 24] <|
  .calc2 (.binOp .lss 3 (.tmp 31) (.tmp 32) 3) 4 [(31, .leaf (.atom (.var 5))), (32, .leaf (.atom (.var 2)))] ([], []) (.leaf (.atom (.const (.bool true)))) 0 (
    .call 32 [.agg [.whole 6 24], .agg [.whole 3 24]] ([], []) (.leaf (.agg [.whole 7 24])) 1 [] <|
    .calc (.binOp .add 3 (.tmp 34) (.const (.int .i64 1)) 3) 3 [(34, .leaf (.atom (.var 5)))] ([], []) (.leaf (.atom (.var 8))) 1 <|
    .again 0 [.atom (.var 8), .agg [.whole 7 24]]) (.leaf (.atom (.const (.bool false)))) 0 <|
  .calc (.convert 3 5 (.tmp 40)) 5 [(40, .leaf (.atom (.var 2)))] ([], []) (.leaf (.atom (.var 7))) 1 <|
  .new <|
  .call 33 [.agg [.whole 3 24]] ([], []) (.leaf (.agg [.whole 8 8])) 1 [] <|
  .call 16 [.atom (.slc 3 0 1 1), .agg [.whole 8 8]] ([([.whole 0 57, .one (.var 1)], 68), ([.whole 3 24], 70), ([.whole 6 24], 70), ([.one (.var 7)], 5)], []) (.tup [.agg [.whole 9 8], .atom (.var 10)]) 2 [] <|
  .new <|
  .calc2 (.binOp .eql 45 (.tmp 48) (.const (.int .i64 0)) 45) 4 [(48, .leaf (.atom (.var 10)))] ([], []) (.leaf (.atom (.const (.bool true)))) 0 (
    .call 33 [.agg [.whole 6 24]] ([], []) (.leaf (.agg [.whole 11 8])) 1 [] <|
    .call2 22 [.agg [.whole 9 8], .agg [.whole 11 8]] ([], []) (.leaf (.atom (.const (.bool true)))) 0 [] (
      .call2 15 [] ([], []) (.leaf (.atom (.const (.bool true)))) 0 [] (
        .ret ([], []) (.leaf (.atom (.const (.bool true))))) (.leaf (.atom (.const (.bool false)))) 0 [] <|
      .ret ([], []) (.leaf (.atom (.const (.bool false))))) (.leaf (.atom (.const (.bool false)))) 0 [] <|
    .ret ([], []) (.leaf (.atom (.const (.bool false))))) (.leaf (.atom (.const (.bool false)))) 0 <|
  .ret ([], []) (.leaf (.atom (.const (.bool false))))
theorem c_lpoints : compF Try.prog Try.f9 o_lpoints (Try.f9.body.getD .skip) (symIn [.agg [.whole 0 57, .one (.var 1)], .atom (.var 2)] Try.f9.ntmps 3) = some t_lpoints := by kernel_rfl
theorem g_lpoints : goodC Try.prog o_lpoints.ords (Try.f9.body.getD .skip) = true := by kernel_rfl
set_option maxRecDepth 100000 in
set_option maxHeartbeats 1000000 in
theorem aw_lpoints (b1 : List Int) (lb1 : b1.length = 57) (yb1 : By b1) (n1 : Int) (r1 : I64 n1) (n2 : Int) (r2 : I64 n2) : AWp Try.prog tjT (fun a => a = .bool true) t_lpoints [] [.ints .u8 b1, .int .i64 n1, .int .i64 n2] := by
  have m1 := And.intro lb1 yb1
  have r2' : -9223372036854775808 ≤ n2 ∧ n2 < 9223372036854775808 := r2
  by_cases a1 : n2 < 0
  · repeat ((conv => whnf) <;> first | with_reducible refine wI (by omega) ?_ | with_reducible refine wB (by omega) ?_ | with_reducible refine wR (by omega) ?_ | with_reducible refine wQ (by omega) ?_ | refine And.intro (Eq.refl true) ?_ | refine And.intro (Eq.refl (1 : Nat)) ?_ | with_reducible refine And.intro rfl ?_ | with_reducible rfl | with_reducible refine And.intro (by assumption) ?_ | with_reducible refine cTe (by assumption) ?_ | with_reducible refine cFe (by assumption) ?_ | with_reducible refine cN (cTe (by assumption) ?_) | with_reducible refine cN (cFe (by assumption) ?_) | with_reducible refine cTe rfl ?_ | with_reducible refine cEq (by assumption) ?_ | with_reducible refine cTt ?_ | with_reducible refine cNt ?_ | with_reducible refine cF (Eq.refl false) ?_ | with_reducible refine cN (cF (Eq.refl false) ?_) | with_reducible refine cTd (by omega) ?_ | with_reducible refine cFd (by omega) ?_ | with_reducible refine cN (cTd (by omega) ?_) | with_reducible refine cN (cFd (by omega) ?_) | with_reducible refine And.intro (fun hh : Option.isSome none = true => by cases hh) ?_ | with_reducible refine And.intro (by omega) ?_)
  by_cases a2 : n2 > 255
  · repeat ((conv => whnf) <;> first | with_reducible refine wI (by omega) ?_ | with_reducible refine wB (by omega) ?_ | with_reducible refine wR (by omega) ?_ | with_reducible refine wQ (by omega) ?_ | refine And.intro (Eq.refl true) ?_ | refine And.intro (Eq.refl (1 : Nat)) ?_ | with_reducible refine And.intro rfl ?_ | with_reducible rfl | with_reducible refine And.intro (by assumption) ?_ | with_reducible refine cTe (by assumption) ?_ | with_reducible refine cFe (by assumption) ?_ | with_reducible refine cN (cTe (by assumption) ?_) | with_reducible refine cN (cFe (by assumption) ?_) | with_reducible refine cTe rfl ?_ | with_reducible refine cEq (by assumption) ?_ | with_reducible refine cTt ?_ | with_reducible refine cNt ?_ | with_reducible refine cF (Eq.refl false) ?_ | with_reducible refine cN (cF (Eq.refl false) ?_) | with_reducible refine cTd (by omega) ?_ | with_reducible refine cFd (by omega) ?_ | with_reducible refine cN (cTd (by omega) ?_) | with_reducible refine cN (cFd (by omega) ?_) | with_reducible refine And.intro (fun hh : Option.isSome none = true => by cases hh) ?_ | with_reducible refine And.intro (by omega) ?_)
  generalize hg : spotL b1 n1 = g
  have m0 : (By [n2] ∧ [n2].length ≤ 100000) := ⟨fun x hx => by simp only [List.mem_singleton] at hx; omega, by simp⟩
  have el : ladU (uO g) (nval [n2]) = uO (mulG n2.toNat g) := by rw [nval_1 (by omega), uO_lad]
  repeat ((conv => whnf) <;> first | with_reducible refine wI (by omega) ?_ | with_reducible refine wB (by omega) ?_ | with_reducible refine wR (by omega) ?_ | with_reducible refine wQ (by omega) ?_ | refine And.intro (Eq.refl true) ?_ | refine And.intro (Eq.refl (1 : Nat)) ?_ | with_reducible refine And.intro rfl ?_ | with_reducible rfl | with_reducible refine And.intro (by assumption) ?_ | with_reducible refine cTe (by assumption) ?_ | with_reducible refine cFe (by assumption) ?_ | with_reducible refine cN (cTe (by assumption) ?_) | with_reducible refine cN (cFe (by assumption) ?_) | with_reducible refine cTe rfl ?_ | with_reducible refine cEq (by assumption) ?_ | with_reducible refine cTt ?_ | with_reducible refine cNt ?_ | with_reducible refine cF (Eq.refl false) ?_ | with_reducible refine cN (cF (Eq.refl false) ?_) | with_reducible refine cTd (by omega) ?_ | with_reducible refine cFd (by omega) ?_ | with_reducible refine cN (cTd (by omega) ?_) | with_reducible refine cN (cFd (by omega) ?_) | with_reducible refine And.intro (fun hh : Option.isSome none = true => by cases hh) ?_ | with_reducible refine And.intro (by omega) ?_)
  rw [hg]
  refine ⟨Nat, fun j zs => (j : Int) ≤ n2 ∧ zs = [.int .i64 (j : Int), .ob (.pt (mulG j g))], fun j => n2.toNat - j, 0, ?_, ?_⟩
  · (conv => whnf)
    exact ⟨_, Subs.refl' _, by omega, rfl⟩
  rintro j _ ⟨hj, rfl⟩
  by_cases hlt : (j : Int) < n2
  · repeat ((conv => whnf) <;> first | with_reducible refine wI (by omega) ?_ | with_reducible refine wB (by omega) ?_ | with_reducible refine wR (by omega) ?_ | with_reducible refine wQ (by omega) ?_ | refine And.intro (Eq.refl true) ?_ | refine And.intro (Eq.refl (1 : Nat)) ?_ | with_reducible refine And.intro rfl ?_ | with_reducible rfl | with_reducible refine And.intro (by assumption) ?_ | with_reducible refine cTe (by assumption) ?_ | with_reducible refine cFe (by assumption) ?_ | with_reducible refine cN (cTe (by assumption) ?_) | with_reducible refine cN (cFe (by assumption) ?_) | with_reducible refine cTe rfl ?_ | with_reducible refine cEq (by assumption) ?_ | with_reducible refine cTt ?_ | with_reducible refine cNt ?_ | with_reducible refine cF (Eq.refl false) ?_ | with_reducible refine cN (cF (Eq.refl false) ?_) | with_reducible refine cTd (by omega) ?_ | with_reducible refine cFd (by omega) ?_ | with_reducible refine cN (cTd (by omega) ?_) | with_reducible refine cN (cFd (by omega) ?_) | with_reducible refine And.intro (fun hh : Option.isSome none = true => by cases hh) ?_ | with_reducible refine And.intro (by omega) ?_)
    (conv => whnf)
    exact ⟨_, Subs.refl' _, j + 1, ⟨by omega, zsU (by omega) (mulG_s j g).symm⟩, by show n2.toNat - (j + 1) < n2.toNat - j; omega⟩
  · have hjn : mulG j g = mulG n2.toNat g := by congr 1; omega
    have ej : ladU (uO g) (nval [n2]) = uO (mulG j g) := by rw [el, hjn]
    repeat ((conv => whnf) <;> first | with_reducible refine wI (by omega) ?_ | with_reducible refine wB (by omega) ?_ | with_reducible refine wR (by omega) ?_ | with_reducible refine wQ (by omega) ?_ | refine And.intro (Eq.refl true) ?_ | refine And.intro (Eq.refl (1 : Nat)) ?_ | with_reducible refine And.intro rfl ?_ | with_reducible rfl | with_reducible refine And.intro (by assumption) ?_ | with_reducible refine cTe (by assumption) ?_ | with_reducible refine cFe (by assumption) ?_ | with_reducible refine cN (cTe (by assumption) ?_) | with_reducible refine cN (cFe (by assumption) ?_) | with_reducible refine cTe rfl ?_ | with_reducible refine cEq (by assumption) ?_ | with_reducible refine cTt ?_ | with_reducible refine cNt ?_ | with_reducible refine cF (Eq.refl false) ?_ | with_reducible refine cN (cF (Eq.refl false) ?_) | with_reducible refine cTd (by omega) ?_ | with_reducible refine cFd (by omega) ?_ | with_reducible refine cN (cTd (by omega) ?_) | with_reducible refine cN (cFd (by omega) ?_) | with_reducible refine And.intro (fun hh : Option.isSome none = true => by cases hh) ?_ | with_reducible refine And.intro (by omega) ?_)
    (conv => whnf)
    refine ⟨[.isl .u8 [n2], .el (uO g)], ⟨Sub.refl' _, Sub.refl' _, trivial⟩, ?_⟩
    (conv => whnf)
    refine ⟨m0, fun h => absurd h (by simp), fun _ => ⟨rfl, ?_⟩⟩
    repeat ((conv => whnf) <;> first | with_reducible refine wI (by omega) ?_ | with_reducible refine wB (by omega) ?_ | with_reducible refine wR (by omega) ?_ | with_reducible refine wQ (by omega) ?_ | refine And.intro (Eq.refl true) ?_ | refine And.intro (Eq.refl (1 : Nat)) ?_ | with_reducible refine And.intro rfl ?_ | with_reducible rfl | with_reducible refine And.intro (by assumption) ?_ | with_reducible refine cTe (by assumption) ?_ | with_reducible refine cFe (by assumption) ?_ | with_reducible refine cN (cTe (by assumption) ?_) | with_reducible refine cN (cFe (by assumption) ?_) | with_reducible refine cTe rfl ?_ | with_reducible refine cEq (by assumption) ?_ | with_reducible refine cTt ?_ | with_reducible refine cNt ?_ | with_reducible refine cF (Eq.refl false) ?_ | with_reducible refine cN (cF (Eq.refl false) ?_) | with_reducible refine cTd (by omega) ?_ | with_reducible refine cFd (by omega) ?_ | with_reducible refine cN (cTd (by omega) ?_) | with_reducible refine cN (cFd (by omega) ?_) | with_reducible refine And.intro (fun hh : Option.isSome none = true => by cases hh) ?_ | with_reducible refine And.intro (by omega) ?_)
set_option maxRecDepth 100000 in
theorem lpoints_any (b1 : List Int) (lb1 : b1.length = 57) (yb1 : By b1) (n1 : Int) (r1 : I64 n1) (n2 : Int) (r2 : I64 n2) (w : World) : Calls Try.prog 9 #[AG (ys b1 ++ [.int .i64 n1]), .int .i64 n2] w (OutV (.bool true) w) :=
  law_tree tjT_ok o_lpoints [.agg [.whole 0 57, .one (.var 1)], .atom (.var 2)] [AG (ys b1), .int .i64 n1, .int .i64 n2] [.ints .u8 b1, .int .i64 n1, .int .i64 n2] Try.func9 rfl c_lpoints (by simp [Leaf.den, catS, Seg.den, Atom.den, cellsAt, AG, Value.cells]) (by intro x hx; simp only [List.mem_cons, List.not_mem_nil, or_false] at hx; rcases hx with rfl | rfl <;> first | exact ok_spot rfl lb1 rfl rfl | exact ok_one rfl rfl) ⟨_, _, rfl, arr_val b1, _, _, rfl, int_val n1, ⟨_, _, rfl, int_val n2, rfl⟩⟩ g_lpoints (aw_lpoints b1 lb1 yb1 n1 r1 n2 r2)
end Go.Proofs.Ytmbapbbneapcnaa
