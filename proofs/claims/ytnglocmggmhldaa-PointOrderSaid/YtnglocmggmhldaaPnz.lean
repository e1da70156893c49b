/- Chapter 8: PointOrder -/
import Derived.Test.YtnglocmggmhldaaPnx
import Derived.Test.YtnglocmggmhldaaNth
set_option linter.unusedSimpArgs false
set_option linter.unusedVariables false
namespace Go.Proofs.Ytnglocmggmhldaa
open Go.RowKit FdP FdP.Ch
def HexB (c : List Int) (n : Nat) : Prop := ∀ i : Nat, i < n → (48 ≤ c.getD i 0 ∧ c.getD i 0 ≤ 57) ∨ (97 ≤ c.getD i 0 ∧ c.getD i 0 ≤ 102)
instance (c : List Int) (n : Nat) : Decidable (HexB c n) := by unfold HexB; infer_instance
def tDigit : Trans := fun zs Q => match zs with
  | [.int .u8 x] => ((48 ≤ x ∧ x ≤ 57) ∨ (97 ≤ x ∧ x ≤ 102)) ∧ Q (.int .i64 (hexN x))
  | _ => False
theorem hexN_bd {x : Int} (h : (48 ≤ x ∧ x ≤ 57) ∨ (97 ≤ x ∧ x ≤ 102)) : 0 ≤ hexN x ∧ hexN x < 16 := by unfold hexN; split <;> omega
/-- bytes of hexadecimal digits, the last ones first -/
def lessB (c : List Int) : Nat → List Int
  | 0 => []
  | j + 1 => lessB c j ++ [16 * hexN (c.getD (54 - 2 * j) 0) + hexN (c.getD (55 - 2 * j) 0)]
theorem lessB_len (c : List Int) : ∀ j, (lessB c j).length = j
  | 0 => rfl
  | j + 1 => by simp [lessB, lessB_len c j]
theorem zsL {n n' : Nat} {l l' : List Int} {i i' : Int} (hn : n = n') (hl : l = l') (hi : i = i') : [AV.row n, .ints .u8 l, .int .i64 i] = [.row n', .ints .u8 l', .int .i64 i'] := by rw [hn, hl, hi]
def o_rdigit : Orc := { ans := [(4, .two ⟨.leaf (.atom (.const (.bool true))), 0, []⟩ ⟨.leaf (.atom (.const (.bool false))), 0, []⟩), (6, .one ⟨.leaf (.atom (.var 0)), 1, []⟩), (7, .one ⟨.leaf (.atom (.var 0)), 1, []⟩), (8, .one ⟨.leaf (.atom (.var 0)), 1, []⟩), (10, .one ⟨.leaf (.atom (.var 0)), 1, []⟩), (11, .one ⟨.leaf (.atom (.var 0)), 1, []⟩)], lps := [] }
def t_rdigit : Tree :=
  .calc2 (.binOp .geq 5 (.tmp 3) (.const (.int .u8 97)) 5) 4 [(3, .leaf (.atom (.var 0)))] ([], []) (.leaf (.atom (.const (.bool true)))) 0 (
    .calc (.binOp .sub 5 (.tmp 5) (.const (.int .u8 97)) 5) 5 [(5, .leaf (.atom (.var 0)))] ([], []) (.leaf (.atom (.var 1))) 1 <|
    .calc (.convert 5 3 (.tmp 6)) 3 [(6, .leaf (.atom (.var 1)))] ([], []) (.leaf (.atom (.var 2))) 1 <|
    .calc (.binOp .add 3 (.tmp 7) (.const (.int .i64 10)) 3) 3 [(7, .leaf (.atom (.var 2)))] ([], []) (.leaf (.atom (.var 3))) 1 <|
    .ret ([], []) (.leaf (.atom (.var 3)))) (.leaf (.atom (.const (.bool false)))) 0 <|
  .calc (.binOp .sub 5 (.tmp 9) (.const (.int .u8 48)) 5) 5 [(9, .leaf (.atom (.var 0)))] ([], []) (.leaf (.atom (.var 1))) 1 <|
  .calc (.convert 5 3 (.tmp 10)) 3 [(10, .leaf (.atom (.var 1)))] ([], []) (.leaf (.atom (.var 2))) 1 <|
  .ret ([], []) (.leaf (.atom (.var 2)))
theorem c_rdigit : compF Try.prog Try.f38 o_rdigit (Try.f38.body.getD .skip) (symIn [.atom (.var 0)] Try.f38.ntmps 1) = some t_rdigit := by kernel_rfl
theorem g_rdigit : goodC Try.prog o_rdigit.ords (Try.f38.body.getD .skip) = true := by kernel_rfl
def tb_rdigit : FuncId × Trans := (38, tDigit)
set_option maxRecDepth 100000 in
theorem aw_rdigit : ∀ zs Q, tb_rdigit.2 zs Q → bindLs 0 [.atom (.var 0)] zs fun ae => bif Nat.beq ae.length 1 then AWp Try.prog tabNil Q t_rdigit [] ae else False := by
  intro zs Q h
  replace h : tDigit zs Q := h
  unfold tDigit at h
  split at h
  case h_2 => exact h.elim
  rename_i x
  obtain ⟨hx, h⟩ := h
  by_cases h97 : 97 ≤ x
  · have e : x - 97 + 10 = hexN x := by unfold hexN; rw [if_pos h97]
    rw [← e] at h
    repeat ((conv => whnf) <;> first | refine wI (by omega) ?_ | refine wB (by omega) ?_ | refine wR (by omega) ?_ | refine wQ (by omega) ?_ | with_reducible refine And.intro rfl ?_ | with_reducible refine And.intro (by assumption) ?_ | refine And.intro (by omega) ?_ | with_reducible refine cTe (by assumption) ?_ | with_reducible refine cFe (by assumption) ?_ | with_reducible refine cTt ?_ | with_reducible refine cNt ?_ | refine cTd (by omega) ?_ | refine cFd (by omega) ?_)
    (conv => whnf)
    exact h
  · have e : x - 48 = hexN x := by unfold hexN; rw [if_neg h97]
    rw [← e] at h
    repeat ((conv => whnf) <;> first | refine wI (by omega) ?_ | refine wB (by omega) ?_ | refine wR (by omega) ?_ | refine wQ (by omega) ?_ | with_reducible refine And.intro rfl ?_ | with_reducible refine And.intro (by assumption) ?_ | refine And.intro (by omega) ?_ | with_reducible refine cTe (by assumption) ?_ | with_reducible refine cFe (by assumption) ?_ | with_reducible refine cTt ?_ | with_reducible refine cNt ?_ | refine cTd (by omega) ?_ | refine cFd (by omega) ?_)
    (conv => whnf)
    exact h
theorem tb_rdigit_ok : Con Try.prog tb_rdigit.1 tb_rdigit.2 := con_tree tabNil_ok o_rdigit [.atom (.var 0)] 1 Try.func38 rfl c_rdigit aw_rdigit g_rdigit
def tabL : Tab := tb_rdigit :: tb_rsub3 :: []
theorem tabL_ok : tabL.OK Try.prog := tab_cons tb_rdigit_ok <| tab_cons tb_rsub3_ok <| tab_nil _
def LL : List Int := cutL (subL (List.replicate 55 0 ++ [64]) (lessB (strB ⟨#[56, 51, 51, 53, 100, 99, 49, 54, 51, 98, 98, 49, 50, 52, 98, 54, 53, 49, 50, 57, 99, 57, 54, 102, 100, 101, 57, 51, 51, 100, 56, 100, 55, 50, 51, 97, 55, 48, 97, 97, 100, 99, 56, 55, 51, 100, 54, 100, 53, 52, 97, 55, 98, 98, 48, 100]⟩) 28))
theorem LL_ok : (0 < LL.length ∧ LL.length ≤ 1000 ∧ By LL) ∧ nval LL = LN := by decide +kernel
def tL : Trans := fun zs Q => match zs with
  | [] => Q (.isl .u8 LL)
  | _ => False
def o_rL : Orc := { ans := [(6, .one ⟨.leaf (.atom (.var 0)), 1, []⟩), (7, .one ⟨.leaf (.atom (.var 0)), 1, []⟩), (9, .two ⟨.leaf (.atom (.const (.bool true))), 0, []⟩ ⟨.leaf (.atom (.const (.bool false))), 0, []⟩), (15, .one ⟨.leaf (.atom (.var 0)), 1, []⟩), (16, .one ⟨.leaf (.atom (.var 0)), 1, []⟩), (17, .one ⟨.leaf (.atom (.var 0)), 1, []⟩), (20, .one ⟨.leaf (.atom (.var 0)), 1, []⟩), (21, .one ⟨.leaf (.atom (.var 0)), 1, []⟩), (22, .one ⟨.leaf (.atom (.var 0)), 1, []⟩), (23, .one ⟨.leaf (.atom (.var 0)), 1, []⟩), (24, .one ⟨.leaf (.atom (.var 0)), 1, []⟩), (26, .one ⟨.leaf (.atom (.var 0)), 1, []⟩), (11, .one ⟨.leaf (.atom (.var 0)), 1, []⟩), (27, .one ⟨.leaf (.atom (.var 0)), 1, []⟩), (29, .one ⟨.leaf (.atom (.var 0)), 1, []⟩), (32, .one ⟨.leaf (.atom (.var 0)), 1, []⟩)], lps := [(0, [.row 2 5 1, .slot 3 [.one]])], ords := [(6, [.pure 0, .pure 1, .pure 2, .quiet 3, .pure 6, .pure 7, .quiet 8, .quiet 9, .call 4 [], .quiet 5, .call 10 [], .quiet 11, .quiet 12, .make 13 [], .last 14, .last 15])], rws := [27] }
def t_rL : Tree :=
  .calc (.call { callee := .builtin .len, args := #[.tmp 5], argTypes := #[9] }) 3 [(5, .leaf (.atom (.const (.string ⟨#[56, 51, 51, 53, 100, 99, 49, 54, 51, 98, 98, 49, 50, 52, 98, 54, 53, 49, 50, 57, 99, 57, 54, 102, 100, 101, 57, 51, 51, 100, 56, 100, 55, 50, 51, 97, 55, 48, 97, 97, 100, 99, 56, 55, 51, 100, 54, 100, 53, 52, 97, 55, 98, 98, 48, 100]⟩))))] ([], []) (.leaf (.atom (.var 0))) 1 <|
  .calc (.binOp .sub 3 (.tmp 6) (.const (.int .i64 2)) 3) 3 [(6, .leaf (.atom (.var 0)))] ([], []) (.leaf (.atom (.var 1))) 1 <|
  .loop [.atom (.const (.slice none 0 0)), .agg [], .atom (.var 1)] [.one, .row, .one] <|
  .calc2 (.binOp .geq 3 (.tmp 8) (.const (.int .i64 0)) 3) 4 [(8, .leaf (.atom (.var 4)))] ([], []) (.leaf (.atom (.const (.bool true)))) 0 (
    .calc (.index 9 (.tmp 13) (.tmp 14)) 5 [(13, .leaf (.atom (.const (.string ⟨#[56, 51, 51, 53, 100, 99, 49, 54, 51, 98, 98, 49, 50, 52, 98, 54, 53, 49, 50, 57, 99, 57, 54, 102, 100, 101, 57, 51, 51, 100, 56, 100, 55, 50, 51, 97, 55, 48, 97, 97, 100, 99, 56, 55, 51, 100, 54, 100, 53, 52, 97, 55, 98, 98, 48, 100]⟩)))), (14, .leaf (.atom (.var 4)))] ([], []) (.leaf (.atom (.var 5))) 1 <|
    .calc (.binOp .add 3 (.tmp 19) (.const (.int .i64 1)) 3) 3 [(19, .leaf (.atom (.var 4)))] ([], []) (.leaf (.atom (.var 6))) 1 <|
    .calc (.index 9 (.tmp 18) (.tmp 20)) 5 [(18, .leaf (.atom (.const (.string ⟨#[56, 51, 51, 53, 100, 99, 49, 54, 51, 98, 98, 49, 50, 52, 98, 54, 53, 49, 50, 57, 99, 57, 54, 102, 100, 101, 57, 51, 51, 100, 56, 100, 55, 50, 51, 97, 55, 48, 97, 97, 100, 99, 56, 55, 51, 100, 54, 100, 53, 52, 97, 55, 98, 98, 48, 100]⟩)))), (20, .leaf (.atom (.var 6)))] ([], []) (.leaf (.atom (.var 7))) 1 <|
    .call 38 [.atom (.var 5)] ([], []) (.leaf (.atom (.var 8))) 1 [] <|
    .calc (.binOp .mul 3 (.const (.int .i64 16)) (.tmp 16) 3) 3 [(16, .leaf (.atom (.var 8)))] ([], []) (.leaf (.atom (.var 9))) 1 <|
    .call 38 [.atom (.var 7)] ([], []) (.leaf (.atom (.var 10))) 1 [] <|
    .calc (.binOp .add 3 (.tmp 17) (.tmp 22) 3) 3 [(17, .leaf (.atom (.var 9))), (22, .leaf (.atom (.var 10)))] ([], []) (.leaf (.atom (.var 11))) 1 <|
    .calc (.convert 3 5 (.tmp 23)) 5 [(23, .leaf (.atom (.var 11)))] ([], []) (.leaf (.atom (.var 12))) 1 <|
    .new <|
    .app (some 3) [.one (.var 12)] 1 <|
    .calc (.binOp .sub 3 (.tmp 10) (.const (.int .i64 2)) 3) 3 [(10, .leaf (.atom (.var 4)))] ([], []) (.leaf (.atom (.var 15))) 1 <|
    .again 0 [.atom (.var 13), .agg [.rest 14], .atom (.var 15)]) (.leaf (.atom (.const (.bool false)))) 0 <|
  .mkr [.lit [.int .u8 0, .int .u8 0, .int .u8 0, .int .u8 0, .int .u8 0, .int .u8 0, .int .u8 0, .int .u8 0, .int .u8 0, .int .u8 0, .int .u8 0, .int .u8 0, .int .u8 0, .int .u8 0, .int .u8 0, .int .u8 0, .int .u8 0, .int .u8 0, .int .u8 0, .int .u8 0, .int .u8 0, .int .u8 0, .int .u8 0, .int .u8 0, .int .u8 0, .int .u8 0, .int .u8 0, .int .u8 0, .int .u8 0, .int .u8 0, .int .u8 0, .int .u8 0, .int .u8 0, .int .u8 0, .int .u8 0, .int .u8 0, .int .u8 0, .int .u8 0, .int .u8 0, .int .u8 0, .int .u8 0, .int .u8 0, .int .u8 0, .int .u8 0, .int .u8 0, .int .u8 0, .int .u8 0, .int .u8 0, .int .u8 0, .int .u8 0, .int .u8 0, .int .u8 0, .int .u8 0, .int .u8 0, .int .u8 0, .int .u8 0]] 1 <|
  .boundc 55 5 <|
  .sti [.rest 6] 55 5 0 1 [.one (.const (.int .u8 64))] <|
  .frz 5 7 ([], [⟨2, 3, 5, 1⟩, ⟨5, 7, 5, 1⟩]) <|
  .frz 2 3 ([], [⟨2, 3, 5, 1⟩]) <|
  .call 39 [.atom (.var 5), .atom (.var 2)] ([], []) (.leaf (.atom (.var 8))) 1 [] <|
  .ret ([], []) (.leaf (.atom (.var 8)))
theorem c_rL : compF Try.prog Try.f12 o_rL (Try.f12.body.getD .skip) (symIn [] Try.f12.ntmps 0) = some t_rL := by kernel_rfl
theorem g_rL : goodC Try.prog o_rL.ords (Try.f12.body.getD .skip) = true := by kernel_rfl
def tb_rL : FuncId × Trans := (12, tL)
set_option maxRecDepth 100000 in
theorem aw_rL : ∀ zs Q, tb_rL.2 zs Q → bindLs 0 [] zs fun ae => bif Nat.beq ae.length 0 then AWp Try.prog tabL Q t_rL [] ae else False := by
  intro zs Q h
  replace h : tL zs Q := h
  unfold tL at h
  split at h
  case h_2 => exact h.elim
  have hl : (strB ⟨#[56, 51, 51, 53, 100, 99, 49, 54, 51, 98, 98, 49, 50, 52, 98, 54, 53, 49, 50, 57, 99, 57, 54, 102, 100, 101, 57, 51, 51, 100, 56, 100, 55, 50, 51, 97, 55, 48, 97, 97, 100, 99, 56, 55, 51, 100, 54, 100, 53, 52, 97, 55, 98, 98, 48, 100]⟩).length = 56 := by decide +kernel
  have hx : HexB (strB ⟨#[56, 51, 51, 53, 100, 99, 49, 54, 51, 98, 98, 49, 50, 52, 98, 54, 53, 49, 50, 57, 99, 57, 54, 102, 100, 101, 57, 51, 51, 100, 56, 100, 55, 50, 51, 97, 55, 48, 97, 97, 100, 99, 56, 55, 51, 100, 54, 100, 53, 52, 97, 55, 98, 98, 48, 100]⟩) 56 := by decide +kernel
  have hb : By (lessB (strB ⟨#[56, 51, 51, 53, 100, 99, 49, 54, 51, 98, 98, 49, 50, 52, 98, 54, 53, 49, 50, 57, 99, 57, 54, 102, 100, 101, 57, 51, 51, 100, 56, 100, 55, 50, 51, 97, 55, 48, 97, 97, 100, 99, 56, 55, 51, 100, 54, 100, 53, 52, 97, 55, 98, 98, 48, 100]⟩) 28) := by decide +kernel
  have hLL : cutL (subL (List.replicate 55 0 ++ [64]) (lessB (strB ⟨#[56, 51, 51, 53, 100, 99, 49, 54, 51, 98, 98, 49, 50, 52, 98, 54, 53, 49, 50, 57, 99, 57, 54, 102, 100, 101, 57, 51, 51, 100, 56, 100, 55, 50, 51, 97, 55, 48, 97, 97, 100, 99, 56, 55, 51, 100, 54, 100, 53, 52, 97, 55, 98, 98, 48, 100]⟩) 28)) = LL := rfl
  (conv => whnf)
  generalize hs : (⟨#[56, 51, 51, 53, 100, 99, 49, 54, 51, 98, 98, 49, 50, 52, 98, 54, 53, 49, 50, 57, 99, 57, 54, 102, 100, 101, 57, 51, 51, 100, 56, 100, 55, 50, 51, 97, 55, 48, 97, 97, 100, 99, 56, 55, 51, 100, 54, 100, 53, 52, 97, 55, 98, 98, 48, 100]⟩ : ByteArray) = s at *
  repeat ((conv => whnf) <;> first | refine wI (by omega) ?_ | refine wB (by omega) ?_ | refine wR (by omega) ?_ | refine wQ (by omega) ?_ | with_reducible refine And.intro rfl ?_ | with_reducible refine And.intro (by assumption) ?_ | refine And.intro (by omega) ?_ | with_reducible refine cTe (by assumption) ?_ | with_reducible refine cFe (by assumption) ?_ | with_reducible refine cTt ?_ | with_reducible refine cNt ?_ | refine cTd (by omega) ?_ | refine cFd (by omega) ?_)
  (conv => whnf)
  refine ⟨Nat, fun j zs => j ≤ 28 ∧ zs = [.row j, .ints .u8 (lessB (strB s) j), .int .i64 (54 - 2 * (j : Int))], fun j => 28 - j, 0, ?_, ?_⟩
  · (conv => whnf)
    exact ⟨[.row 0, .ints .u8 [], .int .i64 (((strB s).length : Int) - 2)], ⟨sub_row0, sub_agg0 _, Sub.refl' _, trivial⟩, by omega, zsL rfl rfl (by omega)⟩
  rintro j _ ⟨hj, rfl⟩
  have hln := lessB_len (strB s) j
  by_cases hlt : j < 28
  · have x1 := hx (54 - 2 * (j : Int)).toNat (by omega)
    have x2 := hx (54 - 2 * (j : Int) + 1).toNat (by omega)
    have b1 := hexN_bd x1
    have b2 := hexN_bd x2
    repeat ((conv => whnf) <;> first | refine wI (by omega) ?_ | refine wB (by omega) ?_ | refine wR (by omega) ?_ | refine wQ (by omega) ?_ | with_reducible refine And.intro rfl ?_ | with_reducible refine And.intro (by assumption) ?_ | refine And.intro (by omega) ?_ | with_reducible refine cTe (by assumption) ?_ | with_reducible refine cFe (by assumption) ?_ | with_reducible refine cTt ?_ | with_reducible refine cNt ?_ | refine cTd (by omega) ?_ | refine cFd (by omega) ?_)
    refine And.intro (by simp only [AV.size, List.length_append, List.length_singleton]; omega) ?_
    repeat ((conv => whnf) <;> first | refine wI (by omega) ?_ | refine wB (by omega) ?_ | refine wR (by omega) ?_ | refine wQ (by omega) ?_ | with_reducible refine And.intro rfl ?_ | with_reducible refine And.intro (by assumption) ?_ | refine And.intro (by omega) ?_ | with_reducible refine cTe (by assumption) ?_ | with_reducible refine cFe (by assumption) ?_ | with_reducible refine cTt ?_ | with_reducible refine cNt ?_ | refine cTd (by omega) ?_ | refine cFd (by omega) ?_)
    (conv => whnf)
    have e1 : (54 - 2 * (j : Int)).toNat = 54 - 2 * j := by omega
    have e2 : (54 - 2 * (j : Int) + 1).toNat = 55 - 2 * j := by omega
    rw [e1, e2]
    exact ⟨_, Subs.refl' _, j + 1, ⟨by omega, zsL (by simp [hln, AV.size]) rfl (by omega)⟩, by show 28 - (j + 1) < 28 - j; omega⟩
  · obtain rfl : j = 28 := by omega
    repeat ((conv => whnf) <;> first | refine wI (by omega) ?_ | refine wB (by omega) ?_ | refine wR (by omega) ?_ | refine wQ (by omega) ?_ | with_reducible refine And.intro rfl ?_ | with_reducible refine And.intro (by assumption) ?_ | refine And.intro (by omega) ?_ | with_reducible refine cTe (by assumption) ?_ | with_reducible refine cFe (by assumption) ?_ | with_reducible refine cTt ?_ | with_reducible refine cNt ?_ | refine cTd (by omega) ?_ | refine cFd (by omega) ?_)
    refine And.intro (by decide) ?_
    repeat ((conv => whnf) <;> first | refine wI (by omega) ?_ | refine wB (by omega) ?_ | refine wR (by omega) ?_ | refine wQ (by omega) ?_ | with_reducible refine And.intro rfl ?_ | with_reducible refine And.intro (by assumption) ?_ | refine And.intro (by omega) ?_ | with_reducible refine cTe (by assumption) ?_ | with_reducible refine cFe (by assumption) ?_ | with_reducible refine cTt ?_ | with_reducible refine cNt ?_ | refine cTd (by omega) ?_ | refine cFd (by omega) ?_)
    refine And.intro (by decide) ?_
    repeat ((conv => whnf) <;> first | refine wI (by omega) ?_ | refine wB (by omega) ?_ | refine wR (by omega) ?_ | refine wQ (by omega) ?_ | with_reducible refine And.intro rfl ?_ | with_reducible refine And.intro (by assumption) ?_ | refine And.intro (by omega) ?_ | with_reducible refine cTe (by assumption) ?_ | with_reducible refine cFe (by assumption) ?_ | with_reducible refine cTt ?_ | with_reducible refine cNt ?_ | refine cTd (by omega) ?_ | refine cFd (by omega) ?_)
    refine ⟨⟨by decide, hb, by decide, by omega⟩, ?_⟩
    repeat ((conv => whnf) <;> first | refine wI (by omega) ?_ | refine wB (by omega) ?_ | refine wR (by omega) ?_ | refine wQ (by omega) ?_ | with_reducible refine And.intro rfl ?_ | with_reducible refine And.intro (by assumption) ?_ | refine And.intro (by omega) ?_ | with_reducible refine cTe (by assumption) ?_ | with_reducible refine cFe (by assumption) ?_ | with_reducible refine cTt ?_ | with_reducible refine cNt ?_ | refine cTd (by omega) ?_ | refine cFd (by omega) ?_)
    (conv => whnf)
    rw [← hLL] at h
    exact h
theorem tb_rL_ok : Con Try.prog tb_rL.1 tb_rL.2 := con_tree tabL_ok o_rL [] 0 Try.func12 rfl c_rL aw_rL g_rL
theorem LT (q : Nat) : mulG LN (mulG q TG) = mulG q TG + mulG q TG + mulG q TG := by
  rw [← mulG_mul, ← mulG_add, ← mulG_add, mulG_mod TG_four (LN * q), mulG_mod TG_four (q + q + q)]
  congr 1
  rw [Nat.mul_mod, show LN % 4 = 3 by decide +kernel]
  omega
theorem L_any (n q : Nat) : mulG (nval LL) (mulG n BG + mulG q TG) = mulG q TG + mulG q TG + mulG q TG := by
  rw [LL_ok.2, mulG_sum, mulG_comm, LB, mulG_zero', G.zero_add, LT]
theorem L_base : mulG (nval LL) BG = 0 := by rw [LL_ok.2]; exact LB
theorem L_four (n q : Nat) : mulG (nval LL) (mulG n BG + mulG q TG) + mulG (nval LL) (mulG n BG + mulG q TG) + (mulG (nval LL) (mulG n BG + mulG q TG) + mulG (nval LL) (mulG n BG + mulG q TG)) = 0 := by
  rw [L_any]
  have e : ∀ p : G, p + p + (p + p) = mulG 4 p := fun p => by rw [show 4 = 2 + 2 from rfl, mulG_add, mulG_two]
  rw [e, ← mulG_add, ← mulG_add, mulG_comm, TG_four, mulG_zero']
def tbl8z : Tab := tb_rL :: tbl8l
theorem tbl8z_ok : tbl8z.OK Try.prog := tab_cons tb_rL_ok <| tbl8l_ok
def o_order : Orc := { ans := [(11, .one ⟨.leaf (.agg [.whole 0 57, .one (.var 1)]), 2, []⟩), (12, .two ⟨.tup [.agg [.whole 0 24], .atom (.const (.bool true))], 1, []⟩ ⟨.tup [.agg [.whole 0 24], .atom (.const (.bool false))], 1, []⟩), (16, .one ⟨.leaf (.atom (.var 0)), 1, []⟩), (17, .one ⟨.leaf (.atom (.var 0)), 1, []⟩), (18, .one ⟨.tup [.agg [.whole 0 24], .atom (.var 1)], 2, []⟩), (22, .one ⟨.leaf (.atom (.var 0)), 1, []⟩), (25, .one ⟨.leaf (.atom (.var 0)), 1, []⟩), (26, .one ⟨.leaf (.atom (.var 0)), 1, []⟩), (27, .one ⟨.leaf (.atom (.var 0)), 1, []⟩), (29, .one ⟨.leaf (.agg [.whole 0 24]), 1, []⟩), (30, .one ⟨.leaf (.agg [.whole 0 24]), 1, []⟩), (31, .one ⟨.leaf (.agg [.whole 0 24]), 1, []⟩), (32, .one ⟨.leaf (.agg [.whole 0 24]), 1, []⟩), (33, .one ⟨.leaf (.agg [.whole 0 24]), 1, []⟩), (34, .one ⟨.leaf (.agg [.whole 0 24]), 1, []⟩), (36, .one ⟨.leaf (.agg [.whole 0 24]), 1, []⟩), (37, .one ⟨.leaf (.agg [.whole 0 24]), 1, []⟩), (38, .one ⟨.leaf (.agg [.whole 0 24]), 1, []⟩), (39, .two ⟨.leaf (.atom (.const (.bool true))), 0, []⟩ ⟨.leaf (.atom (.const (.bool false))), 0, []⟩), (41, .one ⟨.leaf (.agg [.whole 0 24]), 1, []⟩), (42, .one ⟨.leaf (.agg [.whole 0 24]), 1, []⟩), (43, .two ⟨.leaf (.atom (.const (.bool true))), 0, []⟩ ⟨.leaf (.atom (.const (.bool false))), 0, []⟩), (44, .one ⟨.leaf (.atom (.var 0)), 1, []⟩), (46, .one ⟨.leaf (.agg [.whole 0 24]), 1, []⟩), (47, .one ⟨.leaf (.agg [.whole 0 24]), 1, []⟩), (48, .one ⟨.leaf (.agg [.whole 0 24]), 1, []⟩), (49, .two ⟨.leaf (.atom (.const (.bool true))), 0, []⟩ ⟨.leaf (.atom (.const (.bool false))), 0, []⟩), (50, .one ⟨.leaf (.atom (.var 0)), 1, []⟩), (52, .one ⟨.leaf (.agg [.whole 0 24]), 1, []⟩), (53, .one ⟨.leaf (.agg [.whole 0 24]), 1, []⟩), (54, .two ⟨.leaf (.atom (.const (.bool true))), 0, []⟩ ⟨.leaf (.atom (.const (.bool false))), 0, []⟩), (55, .one ⟨.leaf (.atom (.var 0)), 1, []⟩), (56, .one ⟨.leaf (.atom (.var 0)), 1, []⟩), (58, .two ⟨.leaf (.atom (.const (.bool true))), 0, []⟩ ⟨.leaf (.atom (.const (.bool false))), 0, []⟩), (59, .one ⟨.leaf (.atom (.var 0)), 1, []⟩)], lps := [], ords := [(7, [.quiet 0, .quiet 2, .call 1 [4], .call 3 [4], .make 4 [], .last 5])] }
def t_order : Tree :=
  .new <|
  .call2 10 [.agg [.whole 0 57, .one (.var 1)]] ([], []) (.tup [.agg [.whole 2 24], .atom (.const (.bool true))]) 1 [] (
    .new <|
    .call 11 [.atom (.var 1)] ([], []) (.tup [.agg [.whole 3 24], .atom (.var 4)]) 2 [] <|
    .new <|
    .calc (.unOp .not 4 (.tmp 24)) 4 [(24, .leaf (.atom (.var 4)))] ([], []) (.leaf (.atom (.var 5))) 1 <|
    .ite (.var 5) (
      .ret ([], []) (.leaf (.atom (.const (.bool false))))) <|
    .call 12 [] ([], []) (.leaf (.atom (.var 6))) 1 [] <|
    .call 13 [.atom (.var 6), .agg [.whole 2 24]] ([], []) (.leaf (.agg [.whole 7 24])) 1 [] <|
    .new <|
    .call 15 [.agg [.whole 3 24]] ([], []) (.leaf (.agg [.whole 8 24])) 1 [] <|
    .call 14 [.agg [.whole 8 24], .agg [.whole 3 24]] ([], []) (.leaf (.agg [.whole 9 24])) 1 [] <|
    .new <|
    .call 17 [] ([], []) (.leaf (.agg [.whole 10 24])) 1 [] <|
    .call 13 [.atom (.var 6), .agg [.whole 10 24]] ([], []) (.leaf (.agg [.whole 11 24])) 1 [] <|
    .call 18 [] ([], []) (.leaf (.agg [.whole 12 24])) 1 [] <|
    .call2 16 [.agg [.whole 11 24], .agg [.whole 12 24]] ([], []) (.leaf (.atom (.const (.bool true)))) 0 [] (
      .call2 16 [.agg [.whole 7 24], .agg [.whole 9 24]] ([], []) (.leaf (.atom (.const (.bool true)))) 0 [] (
        .call 19 [.agg [.whole 7 24]] ([], []) (.leaf (.agg [.whole 13 24])) 1 [] <|
        .call 18 [] ([], []) (.leaf (.agg [.whole 14 24])) 1 [] <|
        .call2 16 [.agg [.whole 13 24], .agg [.whole 14 24]] ([], []) (.leaf (.atom (.const (.bool true)))) 0 [] (
          .call 17 [] ([], []) (.leaf (.agg [.whole 15 24])) 1 [] <|
          .call 18 [] ([], []) (.leaf (.agg [.whole 16 24])) 1 [] <|
          .call2 16 [.agg [.whole 15 24], .agg [.whole 16 24]] ([], []) (.leaf (.atom (.const (.bool true)))) 0 [] (
            .ret ([], []) (.leaf (.atom (.const (.bool false))))) (.leaf (.atom (.const (.bool false)))) 0 [] <|
          .call2 20 [] ([], []) (.leaf (.atom (.const (.bool true)))) 0 [] (
            .ret ([], []) (.leaf (.atom (.const (.bool true))))) (.leaf (.atom (.const (.bool false)))) 0 [] <|
          .ret ([], []) (.leaf (.atom (.const (.bool false))))) (.leaf (.atom (.const (.bool false)))) 0 [] <|
        .ret ([], []) (.leaf (.atom (.const (.bool false))))) (.leaf (.atom (.const (.bool false)))) 0 [] <|
      .ret ([], []) (.leaf (.atom (.const (.bool false))))) (.leaf (.atom (.const (.bool false)))) 0 [] <|
    .ret ([], []) (.leaf (.atom (.const (.bool false))))) (.tup [.agg [.whole 2 24], .atom (.const (.bool false))]) 1 [] <|
  .new <|
  .call 11 [.atom (.var 1)] ([], []) (.tup [.agg [.whole 3 24], .atom (.var 4)]) 2 [] <|
  .new <|
  .ret ([], []) (.leaf (.atom (.const (.bool false))))
theorem c_order : compF Try.prog Try.f3 o_order (Try.f3.body.getD .skip) (symIn [.agg [.whole 0 57, .one (.var 1)]] Try.f3.ntmps 2) = some t_order := by kernel_rfl
theorem g_order : goodC Try.prog o_order.ords (Try.f3.body.getD .skip) = true := by kernel_rfl
set_option maxRecDepth 100000 in
set_option maxHeartbeats 4000000 in
theorem aw_order (b1 : List Int) (lb1 : b1.length = 57) (yb1 : By b1) (n1 : Int) (r1 : I64 n1) : AWp Try.prog tbl8z (fun a => a = .bool true) t_order [] [.ints .u8 b1, .int .i64 n1] := by
  have m1 := And.intro lb1 yb1
  have f0 := LL_ok.1
  have f1 := L_base
  have f2 := L_any (nval b1) (quart n1)
  have f3 := L_four (nval b1) (quart n1)
  have f4 := BG_ne
  repeat ((conv => whnf) <;> first | refine wI (by omega) ?_ | refine wB (by omega) ?_ | refine wR (by omega) ?_ | refine wQ (by omega) ?_ | with_reducible refine And.intro rfl ?_ | with_reducible refine And.intro (by assumption) ?_ | refine And.intro (by omega) ?_ | with_reducible refine cTe (by assumption) ?_ | with_reducible refine cFe (by assumption) ?_ | with_reducible refine cTt ?_ | with_reducible refine cNt ?_ | refine cTd (by omega) ?_ | refine cFd (by omega) ?_)
set_option maxRecDepth 100000 in
theorem order_any (b1 : List Int) (lb1 : b1.length = 57) (yb1 : By b1) (n1 : Int) (r1 : I64 n1) (w : World) : Calls Try.prog 3 #[AG (ys b1 ++ [.int .i64 n1])] w (OutV (.bool true) w) :=
  law_tree tbl8z_ok o_order [.agg [.whole 0 57, .one (.var 1)]] [AG (ys b1), .int .i64 n1] [.ints .u8 b1, .int .i64 n1] Try.func3 rfl c_order (by simp [Leaf.den, catS, Seg.den, Atom.den, cellsAt, AG, Value.cells]) (by intro x hx; simp only [List.mem_cons, List.not_mem_nil, or_false] at hx; subst hx <;> first | exact ok_spot rfl lb1 rfl rfl) ⟨_, _, rfl, arr_val b1, _, _, rfl, int_val n1, rfl⟩ g_order (aw_order b1 lb1 yb1 n1 r1)
end Go.Proofs.Ytnglocmggmhldaa
