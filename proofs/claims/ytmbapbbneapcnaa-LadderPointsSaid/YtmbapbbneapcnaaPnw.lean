/- Chapter 8: spots -/
import Derived.Test.YtmbapbbneapcnaaPnu
set_option linter.unusedSimpArgs false
set_option linter.unusedVariables false
namespace Go.Proofs.Ytmbapbbneapcnaa
open Go.RowKit FdP FdP.Ch
def tbl8c : Tab := tb_pbase :: tb_pid :: tb_padd :: tb_pdbl ::   tb_paff :: tb_pof ::  tbl8
theorem tbl8c_ok : tbl8c.OK Try.prog := tab_cons tb_pbase_ok <| tab_cons tb_pid_ok <| tab_cons tb_padd_ok <| tab_cons tb_pdbl_ok <| tab_cons tb_paff_ok <| tab_cons tb_pof_ok <| tbl8_ok
def o_four : Orc := { ans := [(3, .one ⟨.leaf (.agg [.whole 0 24]), 1, []⟩), (4, .one ⟨.leaf (.agg [.whole 0 24]), 1, []⟩), (5, .one ⟨.leaf (.agg [.whole 0 24]), 1, []⟩)], lps := [] }
def t_four : Tree :=
  .new <|
  .new <|
  .call 85 [.agg [.whole 0 24]] ([], []) (.leaf (.agg [.whole 1 24])) 1 [] <|
  .call 85 [.agg [.whole 1 24]] ([], []) (.leaf (.agg [.whole 2 24])) 1 [] <|
  .ret ([], []) (.leaf (.agg [.whole 2 24]))
def tbl8d : Tab := tbl8c
theorem tbl8d_ok : tbl8d.OK Try.prog := tbl8c_ok
theorem TG_x : TG.x = 1 ∧ TG.y = 0 := ⟨rfl, rfl⟩
theorem of_TG : ofP (z 1) (z 0) = TG := by rw [z_one, z_zero]; exact ofP_eq TG
theorem on_TG : z 1 * z 1 + z 0 * z 0 = 1 + cd * (z 1 * z 1 * (z 0 * z 0)) := by rw [z_one, z_zero]; exact TG.on
theorem two_TG : (TG + TG).x = 0 ∧ (TG + TG).y = z (-1) := by
  rw [(add_TG TG).1, (add_TG TG).2]
  exact ⟨rfl, by rw [z_neg, z_one]; rfl⟩
theorem four_TG : TG + TG + (TG + TG) = 0 := by
  have := TG_four
  rw [show 4 = 2 + 2 from rfl, mulG_add, mulG_two] at this
  exact this
def o_awake8 : Orc := { ans := [(6, .one ⟨.leaf (.agg [.whole 0 8]), 1, []⟩), (7, .one ⟨.leaf (.agg [.whole 0 8]), 1, []⟩), (8, .one ⟨.tup [.agg [.whole 0 24], .atom (.var 1)], 2, []⟩), (12, .one ⟨.leaf (.agg [.whole 0 24]), 1, []⟩), (13, .one ⟨.leaf (.agg [.whole 0 24]), 1, []⟩), (14, .one ⟨.tup [.agg [.whole 0 8], .agg [.whole 1 8]], 2, []⟩), (18, .two ⟨.leaf (.atom (.const (.bool true))), 0, []⟩ ⟨.leaf (.atom (.const (.bool false))), 0, []⟩), (20, .one ⟨.leaf (.agg [.whole 0 8]), 1, []⟩), (21, .two ⟨.leaf (.atom (.const (.bool true))), 0, []⟩ ⟨.leaf (.atom (.const (.bool false))), 0, []⟩), (22, .one ⟨.leaf (.atom (.var 0)), 1, []⟩), (24, .one ⟨.leaf (.agg [.whole 0 8]), 1, []⟩), (25, .one ⟨.leaf (.agg [.whole 0 8]), 1, []⟩), (26, .two ⟨.leaf (.atom (.const (.bool true))), 0, []⟩ ⟨.leaf (.atom (.const (.bool false))), 0, []⟩), (27, .one ⟨.leaf (.atom (.var 0)), 1, []⟩), (29, .one ⟨.leaf (.agg [.whole 0 24]), 1, []⟩), (30, .one ⟨.leaf (.agg [.whole 0 24]), 1, []⟩), (31, .one ⟨.leaf (.agg [.whole 0 24]), 1, []⟩), (32, .two ⟨.leaf (.atom (.const (.bool true))), 0, []⟩ ⟨.leaf (.atom (.const (.bool false))), 0, []⟩), (33, .one ⟨.leaf (.atom (.var 0)), 1, []⟩)], lps := [], ords := [(3, [.pure 0, .quiet 1, .pure 2, .quiet 3, .call 4 [], .quiet 5, .pure 6, .quiet 7, .call 8 [], .call 9 [], .quiet 10, .pure 11, .quiet 12, .call 13 [], .call 14 [], .call 15 [], .quiet 16, .pure 17])] }
/-- which quarter -/
def quart (n : Int) : Nat := (n % 4).toNat
theorem tmod4 (n : Int) : -4 < n.tmod 4 ∧ n.tmod 4 < 4 ∧ (n.tmod 4 + 4) % 4 = n % 4 := by
  rcases Int.le_total 0 n with h | h
  · rw [Int.tmod_eq_emod_of_nonneg h]; omega
  · have e : n.tmod 4 = -((-n).tmod 4) := by rw [Int.neg_tmod, Int.neg_neg]
    rw [e, Int.tmod_eq_emod_of_nonneg (by omega)]; omega
theorem wT {n : Int} {K : Int → Prop} (k : K (n.tmod 4)) : ∀ r : Int, r = n.tmod 4 → (0 ≤ n → (0 : Int) < 4 → r = n % 4) → K r := by
  intro r hr _
  rw [hr]; exact k
def tQuarter : Trans := fun zs Q => match zs with
  | [a] => (match a.i64? with
    | some n => Q (.tup [.ob (.pt (mulG (quart n) TG)), .bool true])
    | none => False)
  | _ => False
theorem zsI {k : IntKind} {a a' : Int} {b b' : G} (h : a = a') (h' : b = b') : [AV.int k a, .ob (.pt b)] = [.int k a', .ob (.pt b')] := by rw [h, h']
def tbl8f : Tab := tbl8d
theorem tbl8f_ok : tbl8f.OK Try.prog := tbl8d_ok
def o_quarter : Orc := { ans := [(9, .one ⟨.leaf (.agg [.whole 0 8]), 1, []⟩), (10, .one ⟨.leaf (.agg [.whole 0 8]), 1, []⟩), (11, .one ⟨.tup [.agg [.whole 0 24], .atom (.var 1)], 2, []⟩), (14, .one ⟨.leaf (.agg [.whole 0 24]), 1, []⟩), (17, .one ⟨.leaf (.atom (.var 0)), 1, []⟩), (18, .one ⟨.leaf (.atom (.var 0)), 1, []⟩), (19, .one ⟨.leaf (.atom (.var 0)), 1, []⟩), (20, .two ⟨.leaf (.atom (.const (.bool true))), 0, []⟩ ⟨.leaf (.atom (.const (.bool false))), 0, []⟩), (23, .two ⟨.leaf (.atom (.const (.bool true))), 0, []⟩ ⟨.leaf (.atom (.const (.bool false))), 0, []⟩), (24, .one ⟨.leaf (.atom (.var 0)), 1, []⟩), (27, .one ⟨.leaf (.agg [.whole 0 24]), 1, []⟩), (28, .one ⟨.leaf (.agg [.whole 0 24]), 1, []⟩), (29, .one ⟨.leaf (.agg [.whole 0 24]), 1, []⟩), (26, .one ⟨.leaf (.atom (.var 0)), 1, []⟩), (30, .one ⟨.leaf (.agg [.whole 0 24]), 1, []⟩), (32, .two ⟨.leaf (.atom (.const (.bool true))), 0, []⟩ ⟨.leaf (.atom (.const (.bool false))), 0, []⟩)], lps := [(0, [.slot 7 [.one], .blk 2 [.agg 24]])] }
def t_quarter : Tree :=
  .new <|
  .call 28 [.atom (.const (.int .i64 1))] ([], []) (.leaf (.agg [.whole 1 8])) 1 [] <|
  .call 28 [.atom (.const (.int .i64 0))] ([], []) (.leaf (.agg [.whole 2 8])) 1 [] <|
  .call 84 [.agg [.whole 1 8], .agg [.whole 2 8]] ([], []) (.tup [.agg [.whole 3 24], .atom (.var 4)]) 2 [] <|
  .new <|
  .call 31 [] ([], []) (.leaf (.agg [.whole 5 24])) 1 [] <|
  .new <|
  .loop [.atom (.const (.int .i64 0)), .agg [.whole 5 24]] [.one, .agg 24] <|
  .calc (.binOp .rem 3 (.tmp 16) (.const (.int .i64 4)) 3) 3 [(16, .leaf (.atom (.var 0)))] ([], []) (.leaf (.atom (.var 8))) 1 <|
  .calc (.binOp .add 3 (.tmp 17) (.const (.int .i64 4)) 3) 3 [(17, .leaf (.atom (.var 8)))] ([], []) (.leaf (.atom (.var 9))) 1 <|
  .calc (.binOp .rem 3 (.tmp 18) (.const (.int .i64 4)) 3) 3 [(18, .leaf (.atom (.var 9)))] ([], []) (.leaf (.atom (.var 10))) 1 <|
  .calc2 (.binOp .lss 3 (.tmp 15) (.tmp 19) 3) 4 [(15, .leaf (.atom (.var 6))), (19, .leaf (.atom (.var 10)))] ([], []) (.leaf (.atom (.const (.bool true)))) 0 (
    .calc2 (.binOp .eql 45 (.tmp 22) (.const (.int .i64 0)) 45) 4 [(22, .leaf (.atom (.var 4)))] ([], []) (.leaf (.atom (.const (.bool true)))) 0 (
      .call 32 [.agg [.whole 7 24], .agg [.whole 3 24]] ([], []) (.leaf (.agg [.whole 11 24])) 1 [] <|
      .calc (.binOp .add 3 (.tmp 25) (.const (.int .i64 1)) 3) 3 [(25, .leaf (.atom (.var 6)))] ([], []) (.leaf (.atom (.var 12))) 1 <|
      .again 0 [.atom (.var 12), .agg [.whole 11 24]]) (.leaf (.atom (.const (.bool false)))) 0 <|
    .calc2 (.binOp .eql 45 (.tmp 31) (.const (.int .i64 0)) 45) 4 [(31, .leaf (.atom (.var 4)))] ([], []) (.leaf (.atom (.const (.bool true)))) 0 (
      .ret ([], []) (.tup [.agg [.whole 7 24], .atom (.const (.bool true))])) (.leaf (.atom (.const (.bool false)))) 0 <|
    .ret ([], []) (.tup [.agg [.whole 7 24], .atom (.const (.bool false))])) (.leaf (.atom (.const (.bool false)))) 0 <|
  .calc2 (.binOp .eql 45 (.tmp 31) (.const (.int .i64 0)) 45) 4 [(31, .leaf (.atom (.var 4)))] ([], []) (.leaf (.atom (.const (.bool true)))) 0 (
    .ret ([], []) (.tup [.agg [.whole 7 24], .atom (.const (.bool true))])) (.leaf (.atom (.const (.bool false)))) 0 <|
  .ret ([], []) (.tup [.agg [.whole 7 24], .atom (.const (.bool false))])
theorem c_quarter : compF Try.prog Try.f58 o_quarter (Try.f58.body.getD .skip) (symIn [.atom (.var 0)] Try.f58.ntmps 1) = some t_quarter := by kernel_rfl
theorem g_quarter : goodC Try.prog o_quarter.ords (Try.f58.body.getD .skip) = true := by kernel_rfl
def tb_quarter : FuncId × Trans := (58, tQuarter)
set_option maxRecDepth 100000 in
theorem aw_quarter : ∀ zs Q, tb_quarter.2 zs Q → bindLs 0 [.atom (.var 0)] zs fun ae => bif Nat.beq ae.length 1 then AWp Try.prog tbl8f Q t_quarter [] ae else False := by
  intro zs Q h
  replace h : tQuarter zs Q := h
  unfold tQuarter at h
  split at h
  case h_2 => exact h.elim
  rename_i a
  cases ha : a.i64? with
  | none => rw [ha] at h; exact h.elim
  | some n =>
  rw [ha] at h
  have h : Q (.tup [.ob (.pt (mulG (quart n) TG)), .bool true]) := h
  unfold AV.i64? at ha
  split at ha
  case h_2 => cases ha
  cases ha
  have ht := tmod4 n
  (conv => whnf)
  refine ⟨⟨by decide, by decide⟩, ?_⟩
  (conv => whnf)
  refine ⟨⟨by decide, by decide⟩, ?_⟩
  (conv => whnf)
  refine cTe on_TG ?_
  rw [of_TG]
  (conv => whnf)
  refine ⟨Nat, fun k zs => k ≤ quart n ∧ zs = [.int .i64 (k : Int), .ob (.pt (mulG k TG))], fun k => 4 - k, 0, ?_, ?_⟩
  · (conv => whnf)
    exact ⟨_, Subs.refl' _, by omega, rfl⟩
  rintro k _ ⟨hk, rfl⟩
  unfold quart at *
  have hq : (n % 4).toNat < 4 := by omega
  by_cases hlt : k < (n % 4).toNat
  · repeat ((conv => whnf) <;> first | refine And.intro (by decide) ?_ | refine wI (by omega) ?_ | refine wR (by omega) ?_ | refine wT ?_ | refine cTd (by omega) ?_ | refine cFd (by omega) ?_)
    (conv => whnf)
    exact ⟨_, Subs.refl' _, k + 1, ⟨by omega, zsI (by omega) rfl⟩, by show 4 - (k + 1) < 4 - k; omega⟩
  · have e : k = (n % 4).toNat := by omega
    rw [e] at hlt ⊢
    repeat ((conv => whnf) <;> first | refine And.intro (by decide) ?_ | refine wI (by omega) ?_ | refine wR (by omega) ?_ | refine wT ?_ | refine cTd (by omega) ?_ | refine cFd (by omega) ?_)
    (conv => whnf)
    exact h
theorem tb_quarter_ok : Con Try.prog tb_quarter.1 tb_quarter.2 := con_tree tbl8f_ok o_quarter [.atom (.var 0)] 1 Try.func58 rfl c_quarter aw_quarter g_quarter
def tTimes : Trans := fun zs Q => match zs with
  | [.isl .u8 l, .ob (.pt g)] => (0 < l.length ∧ l.length ≤ 1000 ∧ By l) ∧ Q (.ob (.pt (mulG (nval l) g)))
  | _ => False
theorem dbl_odd {N j : Nat} {g : G} (h : N / 2 ^ j % 2 = 1) : mulG (N / 2 ^ (j + 1)) g + mulG (N / 2 ^ (j + 1)) g + g = mulG (N / 2 ^ j) g := by
  rw [half_step N j, h, mulG_add, mulG_add, mulG_one]
theorem dbl_even {N j : Nat} {g : G} (h : N / 2 ^ j % 2 = 0) : mulG (N / 2 ^ (j + 1)) g + mulG (N / 2 ^ (j + 1)) g = mulG (N / 2 ^ j) g := by
  rw [half_step N j, h, mulG_add, mulG_add, mulG_zero, G.add_zero]
theorem zsT {k : IntKind} {c c' : Bool} {a a' : Int} {b b' : G} (h0 : c = c') (h : a = a') (h' : b = b') : [AV.bool c, AV.int k a, .ob (.pt b)] = [.bool c', .int k a', .ob (.pt b')] := by rw [h0, h, h']
def tbl8g : Tab := tb_quarter :: tbl8f
theorem tbl8g_ok : tbl8g.OK Try.prog := tab_cons tb_quarter_ok <| tbl8f_ok
def o_ptimes : Orc := { ans := [(10, .one ⟨.leaf (.agg [.whole 0 24]), 1, []⟩), (12, .one ⟨.leaf (.atom (.var 0)), 1, []⟩), (13, .one ⟨.leaf (.atom (.var 0)), 1, []⟩), (14, .one ⟨.leaf (.atom (.var 0)), 1, []⟩), (16, .two ⟨.leaf (.atom (.const (.bool true))), 0, []⟩ ⟨.leaf (.atom (.const (.bool false))), 0, []⟩), (21, .one ⟨.leaf (.atom (.var 0)), 1, []⟩), (22, .one ⟨.leaf (.atom (.var 0)), 1, []⟩), (23, .one ⟨.leaf (.atom (.var 0)), 1, []⟩), (24, .one ⟨.leaf (.atom (.var 0)), 1, []⟩), (27, .one ⟨.leaf (.atom (.var 0)), 1, []⟩), (28, .two ⟨.leaf (.atom (.const (.bool true))), 0, []⟩ ⟨.leaf (.atom (.const (.bool false))), 0, []⟩), (32, .one ⟨.leaf (.atom (.var 0)), 1, []⟩), (30, .one ⟨.leaf (.atom (.var 0)), 1, []⟩), (34, .one ⟨.leaf (.agg [.whole 0 24]), 1, []⟩), (35, .one ⟨.leaf (.agg [.whole 0 24]), 1, []⟩), (37, .one ⟨.leaf (.atom (.var 0)), 1, []⟩), (38, .two ⟨.leaf (.atom (.const (.bool true))), 0, []⟩ ⟨.leaf (.atom (.const (.bool false))), 0, []⟩), (39, .one ⟨.leaf (.agg [.whole 0 24]), 1, []⟩), (40, .one ⟨.leaf (.agg [.whole 0 24]), 1, []⟩), (41, .one ⟨.leaf (.agg [.whole 0 24]), 1, []⟩), (18, .one ⟨.leaf (.atom (.var 0)), 1, []⟩), (42, .one ⟨.leaf (.agg [.whole 0 24]), 1, []⟩)], lps := [(0, [.slot 6 [.one], .slot 7 [.one], .blk 2 [.agg 24]]), (2, [.slot 8 [.one], .slot 9 [.one]])] }
def t_ptimes : Tree :=
  .new <|
  .new <|
  .call 31 [] ([], []) (.leaf (.agg [.whole 2 24])) 1 [] <|
  .new <|
  .calc (.call { callee := .builtin .len, args := #[.tmp 11], argTypes := #[44] }) 3 [(11, .leaf (.atom (.var 0)))] ([], []) (.leaf (.atom (.var 3))) 1 <|
  .calc (.binOp .mul 3 (.const (.int .i64 8)) (.tmp 12) 3) 3 [(12, .leaf (.atom (.var 3)))] ([], []) (.leaf (.atom (.var 4))) 1 <|
  .calc (.binOp .sub 3 (.tmp 13) (.const (.int .i64 1)) 3) 3 [(13, .leaf (.atom (.var 4)))] ([], []) (.leaf (.atom (.var 5))) 1 <|
  .loop [.atom (.const (.bool false)), .atom (.var 5), .agg [.whole 2 24]] [.one, .one, .agg 24] <|
  .calc2 (.binOp .geq 3 (.tmp 15) (.const (.int .i64 0)) 3) 4 [(15, .leaf (.atom (.var 7)))] ([], []) (.leaf (.atom (.const (.bool true)))) 0 (
    .calc (.binOp .quo 3 (.tmp 20) (.const (.int .i64 8)) 3) 3 [(20, .leaf (.atom (.var 7)))] ([], []) (.leaf (.atom (.var 9))) 1 <|
    .calc (.indexAddr 44 (.tmp 19) (.tmp 21)) 0 [(19, .leaf (.atom (.var 0))), (21, .leaf (.atom (.var 9)))] ([], []) (.leaf (.atom (.var 10))) 1 <|
    .calc (.load 5 (.tmp 22)) 5 [(22, .leaf (.atom (.var 10)))] ([], []) (.leaf (.atom (.var 11))) 1 <|
    .calc (.convert 5 3 (.tmp 23)) 3 [(23, .leaf (.atom (.var 11)))] ([], []) (.leaf (.atom (.var 12))) 1 <|
    .loop [.atom (.var 12), .atom (.const (.int .i64 0))] [.one, .one] <|
    .calc (.binOp .rem 3 (.tmp 26) (.const (.int .i64 8)) 3) 3 [(26, .leaf (.atom (.var 7)))] ([], []) (.leaf (.atom (.var 15))) 1 <|
    .calc2 (.binOp .lss 3 (.tmp 25) (.tmp 27) 3) 4 [(25, .leaf (.atom (.var 14))), (27, .leaf (.atom (.var 15)))] ([], []) (.leaf (.atom (.const (.bool true)))) 0 (
      .calc (.binOp .quo 3 (.tmp 31) (.const (.int .i64 2)) 3) 3 [(31, .leaf (.atom (.var 13)))] ([], []) (.leaf (.atom (.var 16))) 1 <|
      .calc (.binOp .add 3 (.tmp 29) (.const (.int .i64 1)) 3) 3 [(29, .leaf (.atom (.var 14)))] ([], []) (.leaf (.atom (.var 17))) 1 <|
      .again 1 [.atom (.var 16), .atom (.var 17)]) (.leaf (.atom (.const (.bool false)))) 0 <|
    .ite (.var 6) (
      .call 85 [.agg [.whole 8 24]] ([], []) (.leaf (.agg [.whole 16 24])) 1 [] <|
      .calc (.binOp .rem 3 (.tmp 36) (.const (.int .i64 2)) 3) 3 [(36, .leaf (.atom (.var 13)))] ([], []) (.leaf (.atom (.var 17))) 1 <|
      .calc2 (.binOp .eql 3 (.tmp 37) (.const (.int .i64 1)) 3) 4 [(37, .leaf (.atom (.var 17)))] ([], []) (.leaf (.atom (.const (.bool true)))) 0 (
        .call 32 [.agg [.whole 16 24], .agg [.whole 1 24]] ([], []) (.leaf (.agg [.whole 18 24])) 1 [] <|
        .calc (.binOp .sub 3 (.tmp 17) (.const (.int .i64 1)) 3) 3 [(17, .leaf (.atom (.var 7)))] ([], []) (.leaf (.atom (.var 19))) 1 <|
        .again 0 [.atom (.const (.bool true)), .atom (.var 19), .agg [.whole 18 24]]) (.leaf (.atom (.const (.bool false)))) 0 <|
      .calc (.binOp .sub 3 (.tmp 17) (.const (.int .i64 1)) 3) 3 [(17, .leaf (.atom (.var 7)))] ([], []) (.leaf (.atom (.var 18))) 1 <|
      .again 0 [.atom (.var 6), .atom (.var 18), .agg [.whole 16 24]]) <|
    .calc (.binOp .rem 3 (.tmp 36) (.const (.int .i64 2)) 3) 3 [(36, .leaf (.atom (.var 13)))] ([], []) (.leaf (.atom (.var 16))) 1 <|
    .calc2 (.binOp .eql 3 (.tmp 37) (.const (.int .i64 1)) 3) 4 [(37, .leaf (.atom (.var 16)))] ([], []) (.leaf (.atom (.const (.bool true)))) 0 (
      .call 32 [.agg [.whole 8 24], .agg [.whole 1 24]] ([], []) (.leaf (.agg [.whole 17 24])) 1 [] <|
      .calc (.binOp .sub 3 (.tmp 17) (.const (.int .i64 1)) 3) 3 [(17, .leaf (.atom (.var 7)))] ([], []) (.leaf (.atom (.var 18))) 1 <|
      .again 0 [.atom (.const (.bool true)), .atom (.var 18), .agg [.whole 17 24]]) (.leaf (.atom (.const (.bool false)))) 0 <|
    .calc (.binOp .sub 3 (.tmp 17) (.const (.int .i64 1)) 3) 3 [(17, .leaf (.atom (.var 7)))] ([], []) (.leaf (.atom (.var 17))) 1 <|
    .again 0 [.atom (.var 6), .atom (.var 17), .agg [.whole 8 24]]) (.leaf (.atom (.const (.bool false)))) 0 <|
  .ret ([], []) (.leaf (.agg [.whole 8 24]))
theorem c_ptimes : compF Try.prog Try.f59 o_ptimes (Try.f59.body.getD .skip) (symIn [.atom (.var 0), .agg [.whole 1 24]] Try.f59.ntmps 2) = some t_ptimes := by kernel_rfl
theorem g_ptimes : goodC Try.prog o_ptimes.ords (Try.f59.body.getD .skip) = true := by kernel_rfl
def tb_ptimes : FuncId × Trans := (59, tTimes)
set_option maxRecDepth 100000 in
theorem aw_ptimes : ∀ zs Q, tb_ptimes.2 zs Q → bindLs 0 [.atom (.var 0), .agg [.whole 1 24]] zs fun ae => bif Nat.beq ae.length 2 then AWp Try.prog tbl8g Q t_ptimes [] ae else False := by
  intro zs Q h
  replace h : tTimes zs Q := h
  unfold tTimes at h
  split at h
  case h_2 => exact h.elim
  rename_i l g
  obtain ⟨⟨h0, hl, hb⟩, h⟩ := h
  repeat ((conv => whnf) <;> first | refine wI (by omega) ?_ | refine wB (by omega) ?_ | refine wR (by omega) ?_ | refine wQ (by omega) ?_ | with_reducible refine And.intro rfl ?_ | refine And.intro (by omega) ?_ | refine cTd (by omega) ?_ | refine cFd (by omega) ?_)
  (conv => whnf)
  refine ⟨Nat, fun k zs => k ≤ 8 * l.length ∧ ∃ b : Bool, zs = [.bool b, .int .i64 ((k : Int) - 1), .ob (.pt (mulG (nval l / 2 ^ k) g))] ∧ (b = false → mulG (nval l / 2 ^ k) g = 0), fun k => k, 8 * l.length, ?_, ?_⟩
  · (conv => whnf)
    have e0 : mulG (nval l / 2 ^ (8 * l.length)) g = 0 := by rw [Nat.div_eq_of_lt (nval_lt hb)]; rfl
    exact ⟨_, Subs.refl' _, Nat.le_refl _, false, zsT rfl (by omega) e0.symm, fun _ => e0⟩
  rintro k _ ⟨hk, b, rfl, hz⟩
  cases k with
  | zero =>
    repeat ((conv => whnf) <;> first | refine wI (by omega) ?_ | refine wB (by omega) ?_ | refine wR (by omega) ?_ | refine wQ (by omega) ?_ | with_reducible refine And.intro rfl ?_ | refine And.intro (by omega) ?_ | refine cTd (by omega) ?_ | refine cFd (by omega) ?_)
    (conv => whnf)
    rw [Nat.pow_zero, Nat.div_one]
    exact h
  | succ j =>
    have ej : (((j + 1 : Nat) : Int) - 1) = (j : Int) := by omega
    rw [ej]
    have hj8 : ((j : Int) / 8).toNat = j / 8 := by omega
    have hby : 0 ≤ l.getD ((j : Int) / 8).toNat 0 ∧ l.getD ((j : Int) / 8).toNat 0 < 256 := by_getD hb (by omega)
    have hbit : l.getD ((j : Int) / 8).toNat 0 / 2 ^ (j % 8) % 2 = ((nval l / 2 ^ j % 2 : Nat) : Int) := by rw [hj8]; exact nval_bit hb (by omega)
    repeat ((conv => whnf) <;> first | refine wI (by omega) ?_ | refine wB (by omega) ?_ | refine wR (by omega) ?_ | refine wQ (by omega) ?_ | with_reducible refine And.intro rfl ?_ | refine And.intro (by omega) ?_ | refine cTd (by omega) ?_ | refine cFd (by omega) ?_)
    (conv => whnf)
    generalize l.getD ((j : Int) / 8).toNat 0 = B at *
    refine ⟨Nat, fun m zs => m ≤ j % 8 ∧ zs = [.int .i64 (B / 2 ^ m), .int .i64 (m : Int)], fun m => 8 - m, 0, ?_, ?_⟩
    · (conv => whnf)
      exact ⟨_, Subs.refl' _, by omega, zs2i (by rw [Int.pow_zero, Int.ediv_one]) rfl⟩
    rintro m _ ⟨hm, rfl⟩
    obtain ⟨v0, v1, v2⟩ := shr_bd hby m
    by_cases hlt : m < j % 8
    · generalize B / 2 ^ m = V at *
      repeat ((conv => whnf) <;> first | refine wI (by omega) ?_ | refine wB (by omega) ?_ | refine wR (by omega) ?_ | refine wQ (by omega) ?_ | with_reducible refine And.intro rfl ?_ | refine And.intro (by omega) ?_ | refine cTd (by omega) ?_ | refine cFd (by omega) ?_)
      (conv => whnf)
      exact ⟨_, Subs.refl' _, m + 1, ⟨by omega, zs2i v2.symm (by omega)⟩, by show 8 - (m + 1) < 8 - m; omega⟩
    · obtain rfl : m = j % 8 := by omega
      generalize B / 2 ^ (j % 8) = V at *
      rcases Nat.mod_two_eq_zero_or_one (nval l / 2 ^ j) with hp | hp
      · rw [hp] at hbit
        cases b with
        | true =>
          repeat ((conv => whnf) <;> first | refine wI (by omega) ?_ | refine wB (by omega) ?_ | refine wR (by omega) ?_ | refine wQ (by omega) ?_ | with_reducible refine And.intro rfl ?_ | refine And.intro (by omega) ?_ | refine cTd (by omega) ?_ | refine cFd (by omega) ?_)
          refine cT rfl ?_
          repeat ((conv => whnf) <;> first | refine wI (by omega) ?_ | refine wB (by omega) ?_ | refine wR (by omega) ?_ | refine wQ (by omega) ?_ | with_reducible refine And.intro rfl ?_ | refine And.intro (by omega) ?_ | refine cTd (by omega) ?_ | refine cFd (by omega) ?_)
          (conv => whnf)
          exact ⟨_, Subs.refl' _, j, ⟨by omega, true, zsT rfl (by omega) (dbl_even hp), by simp⟩, by show j < j + 1; omega⟩
        | false =>
          have hz := hz rfl
          have he : mulG (nval l / 2 ^ j) g = 0 := by rw [← dbl_even hp, hz]; exact G.add_zero 0
          repeat ((conv => whnf) <;> first | refine wI (by omega) ?_ | refine wB (by omega) ?_ | refine wR (by omega) ?_ | refine wQ (by omega) ?_ | with_reducible refine And.intro rfl ?_ | refine And.intro (by omega) ?_ | refine cTd (by omega) ?_ | refine cFd (by omega) ?_)
          refine cF rfl ?_
          repeat ((conv => whnf) <;> first | refine wI (by omega) ?_ | refine wB (by omega) ?_ | refine wR (by omega) ?_ | refine wQ (by omega) ?_ | with_reducible refine And.intro rfl ?_ | refine And.intro (by omega) ?_ | refine cTd (by omega) ?_ | refine cFd (by omega) ?_)
          (conv => whnf)
          exact ⟨_, Subs.refl' _, j, ⟨by omega, false, zsT rfl (by omega) (hz.trans he.symm), fun _ => he⟩, by show j < j + 1; omega⟩
      · rw [hp] at hbit
        cases b with
        | true =>
          repeat ((conv => whnf) <;> first | refine wI (by omega) ?_ | refine wB (by omega) ?_ | refine wR (by omega) ?_ | refine wQ (by omega) ?_ | with_reducible refine And.intro rfl ?_ | refine And.intro (by omega) ?_ | refine cTd (by omega) ?_ | refine cFd (by omega) ?_)
          refine cT rfl ?_
          repeat ((conv => whnf) <;> first | refine wI (by omega) ?_ | refine wB (by omega) ?_ | refine wR (by omega) ?_ | refine wQ (by omega) ?_ | with_reducible refine And.intro rfl ?_ | refine And.intro (by omega) ?_ | refine cTd (by omega) ?_ | refine cFd (by omega) ?_)
          (conv => whnf)
          exact ⟨_, Subs.refl' _, j, ⟨by omega, true, zsT rfl (by omega) (dbl_odd hp), by simp⟩, by show j < j + 1; omega⟩
        | false =>
          have hz := hz rfl
          have he : mulG (nval l / 2 ^ (j + 1)) g + g = mulG (nval l / 2 ^ j) g := by rw [← dbl_odd hp, hz, G.add_zero 0]
          repeat ((conv => whnf) <;> first | refine wI (by omega) ?_ | refine wB (by omega) ?_ | refine wR (by omega) ?_ | refine wQ (by omega) ?_ | with_reducible refine And.intro rfl ?_ | refine And.intro (by omega) ?_ | refine cTd (by omega) ?_ | refine cFd (by omega) ?_)
          refine cF rfl ?_
          repeat ((conv => whnf) <;> first | refine wI (by omega) ?_ | refine wB (by omega) ?_ | refine wR (by omega) ?_ | refine wQ (by omega) ?_ | with_reducible refine And.intro rfl ?_ | refine And.intro (by omega) ?_ | refine cTd (by omega) ?_ | refine cFd (by omega) ?_)
          (conv => whnf)
          exact ⟨_, Subs.refl' _, j, ⟨by omega, true, zsT rfl (by omega) he, by simp⟩, by show j < j + 1; omega⟩
theorem tb_ptimes_ok : Con Try.prog tb_ptimes.1 tb_ptimes.2 := con_tree tbl8g_ok o_ptimes [.atom (.var 0), .agg [.whole 1 24]] 2 Try.func59 rfl c_ptimes aw_ptimes g_ptimes
def tMade8 : Trans := fun zs Q => match zs with
  | [.agg [.ints .u8 l, .int .i64 n]] => (l.length = 57 ∧ By l) ∧ Q (.tup [.ob (.pt (mulG (nval l) BG + mulG (quart n) TG)), .bool true])
  | _ => False
def tbl8h : Tab := tb_ptimes :: tbl8g
theorem tbl8h_ok : tbl8h.OK Try.prog := tab_cons tb_ptimes_ok <| tbl8g_ok
def o_made8 : Orc := { ans := [(7, .one ⟨.leaf (.atom (.var 0)), 1, []⟩), (8, .one ⟨.leaf (.atom (.var 0)), 1, []⟩), (9, .one ⟨.tup [.agg [.whole 0 24], .atom (.var 1)], 2, []⟩), (13, .one ⟨.leaf (.atom (.var 0)), 1, []⟩), (14, .one ⟨.leaf (.agg [.whole 0 24]), 1, []⟩), (15, .one ⟨.leaf (.atom (.var 0)), 1, []⟩), (16, .one ⟨.leaf (.atom (.var 0)), 1, []⟩), (17, .one ⟨.leaf (.agg [.whole 0 24]), 1, []⟩), (18, .one ⟨.leaf (.agg [.whole 0 24]), 1, []⟩), (19, .one ⟨.leaf (.agg [.whole 0 24]), 1, []⟩), (20, .one ⟨.leaf (.agg [.whole 0 24]), 1, []⟩)], lps := [], ords := [(4, [.quiet 0, .quiet 1, .quiet 4, .call 2 [], .call 3 [], .call 5 [], .last 6, .last 7])] }
def t_made8 : Tree :=
  .new <|
  .new <|
  .call 58 [.atom (.var 1)] ([], []) (.tup [.agg [.whole 2 24], .atom (.var 3)]) 2 [] <|
  .new <|
  .calc (.unOp .not 4 (.tmp 12)) 4 [(12, .leaf (.atom (.var 3)))] ([], []) (.leaf (.atom (.var 4))) 1 <|
  .ite (.var 4) (
    .call 31 [] ([], []) (.leaf (.agg [.whole 5 24])) 1 [] <|
    .ret ([], []) (.tup [.agg [.whole 5 24], .atom (.const (.bool false))])) <|
  .call 60 [] ([], []) (.leaf (.agg [.whole 5 24])) 1 [] <|
  .call 59 [.atom (.slc 0 0 57 57), .agg [.whole 5 24]] ([([.whole 0 57, .one (.var 1)], 68), ([.lit [.int .u64 0, .int .u64 0, .int .u64 0, .int .u64 0, .int .u64 0, .int .u64 0, .int .u64 0, .int .u64 0, .int .u64 0, .int .u64 0, .int .u64 0, .int .u64 0, .int .u64 0, .int .u64 0, .int .u64 0, .int .u64 0, .int .u64 0, .int .u64 0, .int .u64 0, .int .u64 0, .int .u64 0, .int .u64 0, .int .u64 0, .int .u64 0]], 70), ([.whole 2 24], 70)], []) (.leaf (.agg [.whole 6 24])) 1 [] <|
  .call 32 [.agg [.whole 6 24], .agg [.whole 2 24]] ([], []) (.leaf (.agg [.whole 7 24])) 1 [] <|
  .ret ([], []) (.tup [.agg [.whole 7 24], .atom (.const (.bool true))])
theorem c_made8 : compF Try.prog Try.f30 o_made8 (Try.f30.body.getD .skip) (symIn [.agg [.whole 0 57, .one (.var 1)]] Try.f30.ntmps 2) = some t_made8 := by kernel_rfl
theorem g_made8 : goodC Try.prog o_made8.ords (Try.f30.body.getD .skip) = true := by kernel_rfl
def tb_made8 : FuncId × Trans := (30, tMade8)
set_option maxRecDepth 100000 in
theorem aw_made8 : ∀ zs Q, tb_made8.2 zs Q → bindLs 0 [.agg [.whole 0 57, .one (.var 1)]] zs fun ae => bif Nat.beq ae.length 2 then AWp Try.prog tbl8h Q t_made8 [] ae else False := by
  intro zs Q h
  replace h : tMade8 zs Q := h
  unfold tMade8 at h
  split at h
  case h_2 => exact h.elim
  rename_i l n
  obtain ⟨⟨hl, hb⟩, h⟩ := h
  repeat ((conv => whnf) <;> first | refine wI (by omega) ?_ | refine wB (by omega) ?_ | refine wR (by omega) ?_ | refine wQ (by omega) ?_ | with_reducible refine And.intro rfl ?_ | refine And.intro (by omega) ?_ | refine cTd (by omega) ?_ | refine cFd (by omega) ?_)
  refine cF rfl ?_
  repeat ((conv => whnf) <;> first | refine wI (by omega) ?_ | refine wB (by omega) ?_ | refine wR (by omega) ?_ | refine wQ (by omega) ?_ | with_reducible refine And.intro rfl ?_ | refine And.intro (by omega) ?_ | refine cTd (by omega) ?_ | refine cFd (by omega) ?_)
  refine ⟨⟨by omega, by omega, hb⟩, ?_⟩
  repeat ((conv => whnf) <;> first | refine wI (by omega) ?_ | refine wB (by omega) ?_ | refine wR (by omega) ?_ | refine wQ (by omega) ?_ | with_reducible refine And.intro rfl ?_ | refine And.intro (by omega) ?_ | refine cTd (by omega) ?_ | refine cFd (by omega) ?_)
  (conv => whnf)
  exact h
theorem tb_made8_ok : Con Try.prog tb_made8.1 tb_made8.2 := con_tree tbl8h_ok o_made8 [.agg [.whole 0 57, .one (.var 1)]] 2 Try.func30 rfl c_made8 aw_made8 g_made8
end Go.Proofs.Ytmbapbbneapcnaa
