/- Chapter 10: Clamp, X448 -/
import Derived.Test.YtmbapbbneapcnaaLdb
import Derived.Test.YtmbapbbneapcnaaJ13
import Derived.Test.YtmbapbbneapcnaaRfs
set_option linter.unusedSimpArgs false
set_option linter.unusedVariables false
namespace Go.Proofs.Ytmbapbbneapcnaa
open Go.RowKit FdP FdP.Ch
def nilA : AV := .val (.slice none 0 0)
def tCloneB : Trans := fun zs Q => match zs with
  | [.isl .u8 l] => (l.length ≤ 100000 ∧ 0 < l.length) ∧ Q (.own 5 1 (.ints .u8 l))
  | _ => False
def clampL (k : List Int) : List Int := (k.set 0 (k.getD 0 0 / 4 * 4)).set 55 (k.getD 55 0 % 128 + 128)
theorem clamp_lo {x : Int} (h : 0 ≤ x ∧ x < 256) : bits .or .u8 (bits .and .u8 x 252) 0 = x / 4 * 4 := by
  have hh : ∀ a : Fin 256, bits .or .u8 (bits .and .u8 ((a.val : Nat) : Int) 252) 0 = ((a.val : Nat) : Int) / 4 * 4 := by decide +kernel
  have := hh ⟨x.toNat, by omega⟩
  simpa only [Int.toNat_of_nonneg h.1] using this
theorem clamp_hi {x : Int} (h : 0 ≤ x ∧ x < 256) : bits .or .u8 (bits .and .u8 x 255) 128 = x % 128 + 128 := by
  have hh : ∀ a : Fin 256, bits .or .u8 (bits .and .u8 ((a.val : Nat) : Int) 255) 128 = ((a.val : Nat) : Int) % 128 + 128 := by decide +kernel
  have := hh ⟨x.toNat, by omega⟩
  simpa only [Int.toNat_of_nonneg h.1] using this
theorem getD_set_nf {l : List Int} {i j : Nat} (h : i ≠ j) (v : Int) : (l.set i v).getD j 0 = l.getD j 0 := by
  simp [List.getD, List.getElem?_set, h]
theorem clampL_len (k : List Int) : (clampL k).length = k.length := by simp [clampL]
theorem by_set {l : List Int} (h : By l) (i : Nat) {v : Int} (hv : 0 ≤ v ∧ v < 256) : By (l.set i v) := fun x hx => by
  rcases List.mem_or_eq_of_mem_set hx with hx | rfl
  · exact h x hx
  · exact hv
theorem clampL_by {k : List Int} (h : By k) : By (clampL k) := by
  have h0 := by_getD' h 0
  have h1 := by_getD' h 55
  exact by_set (by_set h 0 (by omega)) 55 (by omega)
def tClamp : Trans := fun zs Q => match zs with
  | [.isl .u8 k] => (By k ∧ k.length = 56) ∧ Q (.tup [.isl .u8 (clampL k), .int .i64 0])
  | _ => False
def tRClamp : Trans := fun zs Q => match zs with
  | [.isl .u8 k] => (By k ∧ k.length = 56) ∧ Q (.isl .u8 (clampL k))
  | _ => False
def tSized : Trans := fun zs Q => match zs with
  | [.sl 1 [.isl .u8 k, .isl .u8 u]] => (k.length ≤ 100000 ∧ u.length ≤ 100000) ∧ Q (.bool (decide (k.length = 56 ∧ u.length = 56)))
  | _ => False
theorem xU_ex : ∃ f : List Int → List Int → F, f = fun k u => ladU (z (bval u)) (nval (clampL k)) := ⟨_, rfl⟩
/-- what a secret number and u's bytes come to -/
noncomputable def xU : List Int → List Int → F := xU_ex.choose
theorem xU_eq (k u : List Int) : xU k u = ladU (z (bval u)) (nval (clampL k)) := congrFun (congrFun xU_ex.choose_spec k) u
def tX448 : Trans := fun zs Q => match zs with
  | [.isl .u8 k, .isl .u8 u] => (By k ∧ By u ∧ k.length ≤ 100000 ∧ u.length ≤ 100000) ∧ (¬ (k.length = 56 ∧ u.length = 56) → Q (.tup [nilA, .int .i64 11])) ∧ (k.length = 56 → u.length = 56 → xU k u = 0 → Q (.tup [nilA, .int .i64 15])) ∧ (k.length = 56 → u.length = 56 → ¬ xU k u = 0 → Q (.tup [.isl .u8 (byF (xU k u)), .int .i64 0]))
  | _ => False
def tRX448 : Trans := fun zs Q => match zs with
  | [.isl .u8 k, .isl .u8 u] => (By k ∧ By u ∧ k.length = 56 ∧ u.length = 56) ∧ (xU k u = 0 → Q nilA) ∧ (¬ xU k u = 0 → Q (.isl .u8 (byF (xU k u))))
  | _ => False
def tPublic : Trans := fun zs Q => match zs with
  | [.isl .u8 k] => (By k ∧ k.length ≤ 100000) ∧ (¬ k.length = 56 → Q (.tup [nilA, .int .i64 11])) ∧ (k.length = 56 → xU k (byF (z 5)) = 0 → Q (.tup [nilA, .int .i64 15])) ∧ (k.length = 56 → ¬ xU k (byF (z 5)) = 0 → Q (.tup [.isl .u8 (byF (xU k (byF (z 5)))), .int .i64 0]))
  | _ => False
def o_cloneB : Orc := { ans := [(4, .two ⟨.leaf (.atom (.const (.bool true))), 0, []⟩ ⟨.leaf (.atom (.const (.bool false))), 0, []⟩), (7, .one ⟨.leaf (.atom (.var 0)), 1, []⟩)], lps := [], rws := [5], own := true }
def t_cloneB : Tree :=
  .calc2 (.binOp .eql 44 (.tmp 3) (.const (.slice none 0 0)) 44) 4 [(3, .leaf (.atom (.var 0)))] ([], []) (.leaf (.atom (.const (.bool true)))) 0 (
    .reto ([], []) (.leaf (.atom (.const (.slice none 0 0))))) (.leaf (.atom (.const (.bool false)))) 0 <|
  .mkr [] 1 <|
  .appv (some 2) 0 1 <|
  .reto ([], [⟨3, 4, 5, 1⟩]) (.leaf (.atom (.var 3)))
theorem c_cloneB : compF Try.prog Try.f80 o_cloneB (Try.f80.body.getD .skip) (symIn [.atom (.var 0)] Try.f80.ntmps 1) = some t_cloneB := by kernel_rfl
theorem g_cloneB : goodC Try.prog o_cloneB.ords (Try.f80.body.getD .skip) = true := by kernel_rfl
def tb_cloneB : FuncId × Trans := (80, tCloneB)
set_option maxRecDepth 100000 in
theorem aw_cloneB : ∀ zs Q, tb_cloneB.2 zs Q → bindLs 0 [.atom (.var 0)] zs fun ae => bif Nat.beq ae.length 1 then AWp Try.prog tabNil Q t_cloneB [] ae else False := by
  intro zs Q h
  replace h : tCloneB zs Q := h
  unfold tCloneB at h
  split at h
  case h_2 => exact h.elim
  rename_i l
  obtain ⟨⟨hl, hp⟩, h⟩ := h
  (conv => whnf)
  intro c hc
  obtain rfl := hc hp
  repeat ((conv => whnf) <;> first | exact rfl | refine wI (by omega) ?_ | refine wB (by omega) ?_ | refine wR (by omega) ?_ | refine wQ (by omega) ?_ | with_reducible refine And.intro rfl ?_ | with_reducible refine And.intro (by assumption) ?_ | with_reducible refine cTe (by assumption) ?_ | with_reducible refine cFe (by assumption) ?_ | with_reducible refine cN (cTe (by assumption) ?_) | with_reducible refine cN (cFe (by assumption) ?_) | with_reducible refine cTe rfl ?_ | with_reducible refine cEq (by assumption) ?_ | with_reducible refine cTt ?_ | with_reducible refine cNt ?_ | with_reducible refine cF (Eq.refl false) ?_ | refine And.intro (fun hh => by first | (cases hh; done) | rfl) ?_ | refine And.intro (by omega) ?_ | refine cTd (by omega) ?_ | refine cFd (by omega) ?_ | refine cN (cTd (by omega) ?_) | refine cN (cFd (by omega) ?_) | refine And.intro (by simp only [AV.size, Nat.div_one, List.length_append, List.length_singleton]; omega) ?_)
  (conv => whnf)
  exact h
theorem tb_cloneB_ok : Con Try.prog tb_cloneB.1 tb_cloneB.2 := con_tree tabNil_ok o_cloneB [.atom (.var 0)] 1 Try.func80 rfl c_cloneB aw_cloneB g_cloneB
def tjG : Tab := tb_cloneB :: []
theorem tjG_ok : tjG.OK Try.prog := tab_cons tb_cloneB_ok <| tab_nil _
def o_clamp : Orc := { ans := [(7, .fresh ⟨.leaf (.atom (.var 0)), 2, []⟩ ⟨0, 1, 5, 1⟩), (10, .one ⟨.leaf (.atom (.var 0)), 1, []⟩), (12, .two ⟨.leaf (.atom (.const (.bool true))), 0, []⟩ ⟨.leaf (.atom (.const (.bool false))), 0, []⟩), (14, .one ⟨.leaf (.atom (.var 0)), 1, []⟩), (16, .two ⟨.leaf (.atom (.const (.bool true))), 0, []⟩ ⟨.leaf (.atom (.const (.bool false))), 0, []⟩), (18, .one ⟨.leaf (.atom (.var 0)), 1, []⟩), (20, .one ⟨.leaf (.atom (.var 0)), 1, []⟩), (21, .one ⟨.leaf (.atom (.var 0)), 1, []⟩)], lps := [], inl := [(14, { ans := [(7, .one ⟨.leaf (.atom (.var 0)), 1, []⟩), (9, .one ⟨.leaf (.atom (.var 0)), 1, []⟩), (11, .one ⟨.leaf (.atom (.var 0)), 1, []⟩), (12, .one ⟨.leaf (.atom (.var 0)), 1, []⟩), (14, .one ⟨.leaf (.atom (.var 0)), 1, []⟩), (16, .one ⟨.leaf (.atom (.var 0)), 1, []⟩), (17, .one ⟨.leaf (.atom (.var 0)), 1, []⟩)], lps := [], ords := [(0, [.quiet 0, .pure 1, .quiet 2, .pure 3, .quiet 4, .quiet 5, .pure 6, .quiet 7, .pure 8, .quiet 9, .quiet 10, .last 11])] }), (18, { ans := [(7, .one ⟨.leaf (.atom (.var 0)), 1, []⟩), (9, .one ⟨.leaf (.atom (.var 0)), 1, []⟩), (11, .one ⟨.leaf (.atom (.var 0)), 1, []⟩), (12, .one ⟨.leaf (.atom (.var 0)), 1, []⟩), (14, .one ⟨.leaf (.atom (.var 0)), 1, []⟩), (16, .one ⟨.leaf (.atom (.var 0)), 1, []⟩), (17, .one ⟨.leaf (.atom (.var 0)), 1, []⟩)], lps := [], ords := [(0, [.quiet 0, .pure 1, .quiet 2, .pure 3, .quiet 4, .quiet 5, .pure 6, .quiet 7, .pure 8, .quiet 9, .quiet 10, .last 11])] }), (20, { ans := [(7, .one ⟨.leaf (.atom (.var 0)), 1, []⟩), (9, .one ⟨.leaf (.atom (.var 0)), 1, []⟩), (11, .one ⟨.leaf (.atom (.var 0)), 1, []⟩), (12, .one ⟨.leaf (.atom (.var 0)), 1, []⟩), (14, .one ⟨.leaf (.atom (.var 0)), 1, []⟩), (16, .one ⟨.leaf (.atom (.var 0)), 1, []⟩), (17, .one ⟨.leaf (.atom (.var 0)), 1, []⟩)], lps := [], ords := [(0, [.quiet 0, .pure 1, .quiet 2, .pure 3, .quiet 4, .quiet 5, .pure 6, .quiet 7, .pure 8, .quiet 9, .quiet 10, .last 11])] })] }
def t_clamp : Tree :=
  .callr 80 [.atom (.var 0)] ([], []) (.leaf (.atom (.var 1))) 2 ⟨1, 2, 5, 1⟩ <|
  .new <|
  .calc (.call { callee := .builtin .len, args := #[.tmp 9], argTypes := #[44] }) 3 [(9, .leaf (.atom (.var 0)))] ([], []) (.leaf (.atom (.var 3))) 1 <|
  .calc2 (.binOp .eql 3 (.tmp 10) (.const (.int .i64 57)) 3) 4 [(10, .leaf (.atom (.var 3)))] ([], []) (.leaf (.atom (.const (.bool true)))) 0 (
    .boundc 56 1 <|
    .ldi [.rest 2] 56 1 0 1 false <|
    .calc (.binOp .and 5 (.tmp 12) (.tmp 13) 5) 5 [(12, .leaf (.atom (.var 4))), (13, .leaf (.atom (.const (.int .u8 0))))] ([], []) (.leaf (.atom (.var 5))) 1 <|
    .calc (.binOp .or 5 (.tmp 14) (.tmp 15) 5) 5 [(14, .leaf (.atom (.var 5))), (15, .leaf (.atom (.const (.int .u8 0))))] ([], []) (.leaf (.atom (.var 6))) 1 <|
    .boundc 56 1 <|
    .sti [.rest 2] 56 1 0 1 [.one (.var 6)] <|
    .boundc 0 1 <|
    .ldi [.rest 7] 0 1 0 1 false <|
    .calc (.binOp .and 5 (.tmp 12) (.tmp 13) 5) 5 [(12, .leaf (.atom (.var 8))), (13, .leaf (.atom (.const (.int .u8 252))))] ([], []) (.leaf (.atom (.var 9))) 1 <|
    .calc (.binOp .or 5 (.tmp 14) (.tmp 15) 5) 5 [(14, .leaf (.atom (.var 9))), (15, .leaf (.atom (.const (.int .u8 0))))] ([], []) (.leaf (.atom (.var 10))) 1 <|
    .boundc 0 1 <|
    .sti [.rest 7] 0 1 0 1 [.one (.var 10)] <|
    .boundc 55 1 <|
    .ldi [.rest 11] 55 1 0 1 false <|
    .calc (.binOp .and 5 (.tmp 12) (.tmp 13) 5) 5 [(12, .leaf (.atom (.var 12))), (13, .leaf (.atom (.const (.int .u8 255))))] ([], []) (.leaf (.atom (.var 13))) 1 <|
    .calc (.binOp .or 5 (.tmp 14) (.tmp 15) 5) 5 [(14, .leaf (.atom (.var 13))), (15, .leaf (.atom (.const (.int .u8 128))))] ([], []) (.leaf (.atom (.var 14))) 1 <|
    .boundc 55 1 <|
    .sti [.rest 11] 55 1 0 1 [.one (.var 14)] <|
    .ret ([([.one (.var 1)], 44)], [⟨1, 15, 5, 1⟩]) (.tup [.atom (.var 1), .atom (.const (.int .i64 0))])) (.leaf (.atom (.const (.bool false)))) 0 <|
  .calc2 (.binOp .eql 3 (.tmp 10) (.const (.int .i64 56)) 3) 4 [(10, .leaf (.atom (.var 3)))] ([], []) (.leaf (.atom (.const (.bool true)))) 0 (
    .boundc 0 1 <|
    .ldi [.rest 2] 0 1 0 1 false <|
    .calc (.binOp .and 5 (.tmp 12) (.tmp 13) 5) 5 [(12, .leaf (.atom (.var 4))), (13, .leaf (.atom (.const (.int .u8 252))))] ([], []) (.leaf (.atom (.var 5))) 1 <|
    .calc (.binOp .or 5 (.tmp 14) (.tmp 15) 5) 5 [(14, .leaf (.atom (.var 5))), (15, .leaf (.atom (.const (.int .u8 0))))] ([], []) (.leaf (.atom (.var 6))) 1 <|
    .boundc 0 1 <|
    .sti [.rest 2] 0 1 0 1 [.one (.var 6)] <|
    .boundc 55 1 <|
    .ldi [.rest 7] 55 1 0 1 false <|
    .calc (.binOp .and 5 (.tmp 12) (.tmp 13) 5) 5 [(12, .leaf (.atom (.var 8))), (13, .leaf (.atom (.const (.int .u8 255))))] ([], []) (.leaf (.atom (.var 9))) 1 <|
    .calc (.binOp .or 5 (.tmp 14) (.tmp 15) 5) 5 [(14, .leaf (.atom (.var 9))), (15, .leaf (.atom (.const (.int .u8 128))))] ([], []) (.leaf (.atom (.var 10))) 1 <|
    .boundc 55 1 <|
    .sti [.rest 7] 55 1 0 1 [.one (.var 10)] <|
    .ret ([([.one (.var 1)], 44)], [⟨1, 11, 5, 1⟩]) (.tup [.atom (.var 1), .atom (.const (.int .i64 0))])) (.leaf (.atom (.const (.bool false)))) 0 <|
  .ret ([], []) (.tup [.atom (.const (.slice none 0 0)), .atom (.const (.int .i64 11))])
theorem c_clamp : compF Try.prog Try.f52 o_clamp (Try.f52.body.getD .skip) (symIn [.atom (.var 0)] Try.f52.ntmps 1) = some t_clamp := by kernel_rfl
theorem g_clamp : goodC Try.prog o_clamp.ords (Try.f52.body.getD .skip) = true := by kernel_rfl
def tb_clamp : FuncId × Trans := (52, tClamp)
set_option maxRecDepth 100000 in
theorem aw_clamp : ∀ zs Q, tb_clamp.2 zs Q → bindLs 0 [.atom (.var 0)] zs fun ae => bif Nat.beq ae.length 1 then AWp Try.prog tjG Q t_clamp [] ae else False := by
  intro zs Q h
  replace h : tClamp zs Q := h
  unfold tClamp at h
  split at h
  case h_2 => exact h.elim
  rename_i k
  obtain ⟨⟨hb, hl⟩, h⟩ := h
  have h0 := by_getD' hb 0
  have h1 := by_getD' hb 55
  have mk : k.length ≤ 100000 ∧ 0 < k.length := ⟨by omega, by omega⟩
  unfold clampL at h
  rw [← clamp_lo h0, ← clamp_hi h1, ← getD_set_nf (show 0 ≠ 55 by omega) (bits .or .u8 (bits .and .u8 (k.getD 0 0) 252) 0)] at h
  have e1 : (k.set (0 + (0 : Int).toNat * 0) (bits .or .u8 (bits .and .u8 (k.getD (0 + (0 : Int).toNat * 0) 0) 252) 0)).length = 56 := by rw [List.length_set]; exact hl
  repeat ((conv => whnf) <;> first | exact rfl | refine wI (by omega) ?_ | refine wB (by omega) ?_ | refine wR (by omega) ?_ | refine wQ (by omega) ?_ | with_reducible refine And.intro rfl ?_ | with_reducible refine And.intro (by assumption) ?_ | with_reducible refine cTe (by assumption) ?_ | with_reducible refine cFe (by assumption) ?_ | with_reducible refine cN (cTe (by assumption) ?_) | with_reducible refine cN (cFe (by assumption) ?_) | with_reducible refine cTe rfl ?_ | with_reducible refine cEq (by assumption) ?_ | with_reducible refine cTt ?_ | with_reducible refine cNt ?_ | with_reducible refine cF (Eq.refl false) ?_ | refine And.intro (fun hh => by first | (cases hh; done) | rfl) ?_ | refine And.intro (by omega) ?_ | refine cTd (by omega) ?_ | refine cFd (by omega) ?_ | refine cN (cTd (by omega) ?_) | refine cN (cFd (by omega) ?_) | refine And.intro (by simp only [AV.size, Nat.div_one, List.length_append, List.length_singleton]; omega) ?_)
  (conv => whnf)
  exact h
theorem tb_clamp_ok : Con Try.prog tb_clamp.1 tb_clamp.2 := con_tree tjG_ok o_clamp [.atom (.var 0)] 1 Try.func52 rfl c_clamp aw_clamp g_clamp
def o_rclamp : Orc := { ans := [(6, .one ⟨.leaf (.atom (.var 0)), 1, []⟩), (9, .one ⟨.leaf (.atom (.var 0)), 1, []⟩), (10, .one ⟨.leaf (.atom (.var 0)), 1, []⟩), (11, .one ⟨.leaf (.atom (.var 0)), 1, []⟩), (12, .one ⟨.leaf (.atom (.var 0)), 1, []⟩), (13, .one ⟨.leaf (.atom (.var 0)), 1, []⟩), (16, .one ⟨.leaf (.atom (.var 0)), 1, []⟩), (17, .one ⟨.leaf (.atom (.var 0)), 1, []⟩), (18, .one ⟨.leaf (.atom (.var 0)), 1, []⟩), (19, .one ⟨.leaf (.atom (.var 0)), 1, []⟩), (20, .one ⟨.leaf (.atom (.var 0)), 1, []⟩), (22, .one ⟨.leaf (.atom (.var 0)), 1, []⟩), (23, .two ⟨.leaf (.atom (.const (.bool true))), 0, []⟩ ⟨.leaf (.atom (.const (.bool false))), 0, []⟩), (25, .one ⟨.leaf (.atom (.var 0)), 1, []⟩)], lps := [] }
def t_rclamp : Tree :=
  .appv none 0 1 <|
  .boundc 0 1 <|
  .ldi [.rest 2] 0 1 0 1 false <|
  .calc (.binOp .quo 5 (.tmp 10) (.const (.int .u8 4)) 5) 5 [(10, .leaf (.atom (.var 3)))] ([], []) (.leaf (.atom (.var 4))) 1 <|
  .calc (.binOp .mul 5 (.tmp 11) (.const (.int .u8 4)) 5) 5 [(11, .leaf (.atom (.var 4)))] ([], []) (.leaf (.atom (.var 5))) 1 <|
  .boundc 0 1 <|
  .sti [.rest 2] 0 1 0 1 [.one (.var 5)] <|
  .boundc 55 1 <|
  .ldi [.rest 6] 55 1 0 1 false <|
  .calc (.binOp .rem 5 (.tmp 17) (.const (.int .u8 128)) 5) 5 [(17, .leaf (.atom (.var 7)))] ([], []) (.leaf (.atom (.var 8))) 1 <|
  .calc (.binOp .add 5 (.tmp 18) (.const (.int .u8 128)) 5) 5 [(18, .leaf (.atom (.var 8)))] ([], []) (.leaf (.atom (.var 9))) 1 <|
  .boundc 55 1 <|
  .sti [.rest 6] 55 1 0 1 [.one (.var 9)] <|
  .calc (.call { callee := .builtin .len, args := #[.tmp 21], argTypes := #[44] }) 3 [(21, .leaf (.atom (.var 1)))] ([], [⟨1, 10, 5, 1⟩]) (.leaf (.atom (.var 11))) 1 <|
  .calc2 (.binOp .eql 3 (.tmp 22) (.const (.int .i64 57)) 3) 4 [(22, .leaf (.atom (.var 11)))] ([], []) (.leaf (.atom (.const (.bool true)))) 0 (
    .boundc 56 1 <|
    .sti [.rest 10] 56 1 0 1 [.one (.const (.int .u8 0))] <|
    .ret ([], [⟨1, 12, 5, 1⟩]) (.leaf (.atom (.var 1)))) (.leaf (.atom (.const (.bool false)))) 0 <|
  .ret ([], [⟨1, 10, 5, 1⟩]) (.leaf (.atom (.var 1)))
theorem c_rclamp : compF Try.prog Try.f53 o_rclamp (Try.f53.body.getD .skip) (symIn [.atom (.var 0)] Try.f53.ntmps 1) = some t_rclamp := by kernel_rfl
theorem g_rclamp : goodC Try.prog o_rclamp.ords (Try.f53.body.getD .skip) = true := by kernel_rfl
def tb_rclamp : FuncId × Trans := (53, tRClamp)
set_option maxRecDepth 100000 in
theorem aw_rclamp : ∀ zs Q, tb_rclamp.2 zs Q → bindLs 0 [.atom (.var 0)] zs fun ae => bif Nat.beq ae.length 1 then AWp Try.prog tabNil Q t_rclamp [] ae else False := by
  intro zs Q h
  replace h : tRClamp zs Q := h
  unfold tRClamp at h
  split at h
  case h_2 => exact h.elim
  rename_i k
  obtain ⟨⟨hb, hl⟩, h⟩ := h
  have h0 := by_getD' hb 0
  have h1 := by_getD' hb 55
  have h1' : (k.set 0 (k.getD 0 0 / 4 * 4)).getD 55 0 = k.getD 55 0 := getD_set_nf (by omega) _
  unfold clampL at h
  rw [← h1'] at h
  rw [← h1'] at h1
  have g0 := by_getD' hb (0 + Int.toNat 0 * 0)
  have es : (AV.ints IntKind.u8 k).size = 56 := hl
  have g1 := by_getD' (by_set hb (0 + Int.toNat 0 * 0) (v := k.getD (0 + Int.toNat 0 * 0) 0 / 4 * 4) (by omega)) (55 + Int.toNat 0 * 0)
  have e2 : (k.set (0 + Int.toNat 0 * 0) (k.getD (0 + Int.toNat 0 * 0) 0 / 4 * 4)).length = 56 := by rw [List.length_set]; exact hl
  have e3 : ∀ v, ((k.set (0 + Int.toNat 0 * 0) (k.getD (0 + Int.toNat 0 * 0) 0 / 4 * 4)).set (55 + Int.toNat 0 * 0) v).length = 56 := fun v => by rw [List.length_set]; exact e2
  have e4 := e3 ((k.set (0 + Int.toNat 0 * 0) (k.getD (0 + Int.toNat 0 * 0) 0 / 4 * 4)).getD (55 + Int.toNat 0 * 0) 0 % 128 + 128)
  repeat ((conv => whnf) <;> first | exact rfl | refine wI (by omega) ?_ | refine wB (by omega) ?_ | refine wR (by omega) ?_ | refine wQ (by omega) ?_ | with_reducible refine And.intro rfl ?_ | with_reducible refine And.intro (by assumption) ?_ | with_reducible refine cTe (by assumption) ?_ | with_reducible refine cFe (by assumption) ?_ | with_reducible refine cN (cTe (by assumption) ?_) | with_reducible refine cN (cFe (by assumption) ?_) | with_reducible refine cTe rfl ?_ | with_reducible refine cEq (by assumption) ?_ | with_reducible refine cTt ?_ | with_reducible refine cNt ?_ | with_reducible refine cF (Eq.refl false) ?_ | refine And.intro (fun hh => by first | (cases hh; done) | rfl) ?_ | refine And.intro (by omega) ?_ | refine cTd (by omega) ?_ | refine cFd (by omega) ?_ | refine cN (cTd (by omega) ?_) | refine cN (cFd (by omega) ?_) | refine And.intro (by simp only [AV.size, Nat.div_one, List.length_append, List.length_singleton]; omega) ?_)
  (conv => whnf)
  exact h
theorem tb_rclamp_ok : Con Try.prog tb_rclamp.1 tb_rclamp.2 := con_tree tabNil_ok o_rclamp [.atom (.var 0)] 1 Try.func53 rfl c_rclamp aw_rclamp g_rclamp
def o_sized : Orc := { ans := [(6, .one ⟨.leaf (.atom (.var 0)), 1, []⟩), (8, .two ⟨.leaf (.atom (.const (.bool true))), 0, []⟩ ⟨.leaf (.atom (.const (.bool false))), 0, []⟩), (9, .one ⟨.leaf (.atom (.var 0)), 1, []⟩), (10, .one ⟨.leaf (.atom (.var 0)), 1, []⟩), (12, .one ⟨.leaf (.atom (.var 0)), 1, []⟩), (13, .two ⟨.leaf (.atom (.const (.bool true))), 0, []⟩ ⟨.leaf (.atom (.const (.bool false))), 0, []⟩), (14, .one ⟨.leaf (.atom (.var 0)), 1, []⟩)], lps := [(0, [.slot 2 [.one], .slot 7 [.one]])] }
def t_sized : Tree :=
  .calc (.call { callee := .builtin .len, args := #[.tmp 5], argTypes := #[114] }) 3 [(5, .leaf (.atom (.var 0)))] ([], []) (.leaf (.atom (.var 1))) 1 <|
  .loop [.atom (.const (.bool false)), .atom (.const (.int .i64 0))] [.one, .one] <|
  .calc2 (.binOp .lss 3 (.tmp 7) (.tmp 6) 3) 0 [(7, .leaf (.atom (.var 3))), (6, .leaf (.atom (.var 1)))] ([], []) (.leaf (.atom (.const (.bool true)))) 0 (
    .calc (.indexAddr 114 (.tmp 5) (.tmp 7)) 0 [(5, .leaf (.atom (.var 0))), (7, .leaf (.atom (.var 3)))] ([], []) (.leaf (.atom (.var 4))) 1 <|
    .calc (.load 44 (.tmp 9)) 44 [(9, .leaf (.atom (.var 4)))] ([], []) (.leaf (.atom (.var 5))) 1 <|
    .calc (.call { callee := .builtin .len, args := #[.tmp 11], argTypes := #[44] }) 3 [(11, .leaf (.atom (.var 5)))] ([], []) (.leaf (.atom (.var 6))) 1 <|
    .calc2 (.binOp .neq 3 (.tmp 12) (.const (.int .i64 56)) 3) 4 [(12, .leaf (.atom (.var 6)))] ([], []) (.leaf (.atom (.const (.bool true)))) 0 (
      .ret ([], []) (.leaf (.atom (.const (.bool false))))) (.leaf (.atom (.const (.bool false)))) 0 <|
    .calc (.binOp .add 3 (.tmp 7) (.const (.int .i64 1)) 3) 3 [(7, .leaf (.atom (.var 3)))] ([], []) (.leaf (.atom (.var 7))) 1 <|
    .again 0 [.atom (.var 2), .atom (.var 7)]) (.leaf (.atom (.const (.bool false)))) 0 <|
  .ret ([], []) (.leaf (.atom (.const (.bool true))))
theorem c_sized : compF Try.prog Try.f51 o_sized (Try.f51.body.getD .skip) (symIn [.atom (.var 0)] Try.f51.ntmps 1) = some t_sized := by kernel_rfl
theorem g_sized : goodC Try.prog o_sized.ords (Try.f51.body.getD .skip) = true := by kernel_rfl
def tb_sized : FuncId × Trans := (51, tSized)
set_option maxRecDepth 100000 in
theorem aw_sized : ∀ zs Q, tb_sized.2 zs Q → bindLs 0 [.atom (.var 0)] zs fun ae => bif Nat.beq ae.length 1 then AWp Try.prog tabNil Q t_sized [] ae else False := by
  intro zs Q h
  replace h : tSized zs Q := h
  unfold tSized at h
  split at h
  case h_2 => exact h.elim
  rename_i k u
  obtain ⟨⟨hk, hu⟩, h⟩ := h
  have el2 : [AV.isl .u8 k, AV.isl .u8 u].length = 2 := rfl
  repeat ((conv => whnf) <;> first | exact rfl | refine wI (by omega) ?_ | refine wB (by omega) ?_ | refine wR (by omega) ?_ | refine wQ (by omega) ?_ | with_reducible refine And.intro rfl ?_ | with_reducible refine And.intro (by assumption) ?_ | with_reducible refine cTe (by assumption) ?_ | with_reducible refine cFe (by assumption) ?_ | with_reducible refine cN (cTe (by assumption) ?_) | with_reducible refine cN (cFe (by assumption) ?_) | with_reducible refine cTe rfl ?_ | with_reducible refine cEq (by assumption) ?_ | with_reducible refine cTt ?_ | with_reducible refine cNt ?_ | with_reducible refine cF (Eq.refl false) ?_ | refine And.intro (fun hh => by first | (cases hh; done) | rfl) ?_ | refine And.intro (by omega) ?_ | refine cTd (by omega) ?_ | refine cFd (by omega) ?_ | refine cN (cTd (by omega) ?_) | refine cN (cFd (by omega) ?_) | refine And.intro (by simp only [AV.size, Nat.div_one, List.length_append, List.length_singleton]; omega) ?_)
  refine ⟨Nat, fun i zs => i ≤ 2 ∧ (1 ≤ i → k.length = 56) ∧ (2 ≤ i → u.length = 56) ∧ zs = [.bool false, .int .i64 (i : Int)], fun i => 2 - i, 0, ?_, ?_⟩
  · (conv => whnf)
    exact ⟨_, Subs.refl' _, Nat.zero_le _, fun h => absurd h (by omega), fun h => absurd h (by omega), rfl⟩
  rintro i _ ⟨hi, q1, q2, rfl⟩
  rcases (by omega : i = 0 ∨ i = 1 ∨ i = 2) with rfl | rfl | rfl
  · by_cases h56 : k.length = 56
    · repeat ((conv => whnf) <;> first | exact rfl | refine wI (by omega) ?_ | refine wB (by omega) ?_ | refine wR (by omega) ?_ | refine wQ (by omega) ?_ | with_reducible refine And.intro rfl ?_ | with_reducible refine And.intro (by assumption) ?_ | with_reducible refine cTe (by assumption) ?_ | with_reducible refine cFe (by assumption) ?_ | with_reducible refine cN (cTe (by assumption) ?_) | with_reducible refine cN (cFe (by assumption) ?_) | with_reducible refine cTe rfl ?_ | with_reducible refine cEq (by assumption) ?_ | with_reducible refine cTt ?_ | with_reducible refine cNt ?_ | with_reducible refine cF (Eq.refl false) ?_ | refine And.intro (fun hh => by first | (cases hh; done) | rfl) ?_ | refine And.intro (by omega) ?_ | refine cTd (by omega) ?_ | refine cFd (by omega) ?_ | refine cN (cTd (by omega) ?_) | refine cN (cFd (by omega) ?_) | refine And.intro (by simp only [AV.size, Nat.div_one, List.length_append, List.length_singleton]; omega) ?_)
      refine ⟨.isl .u8 k, rfl, ?_⟩
      repeat ((conv => whnf) <;> first | exact rfl | refine wI (by omega) ?_ | refine wB (by omega) ?_ | refine wR (by omega) ?_ | refine wQ (by omega) ?_ | with_reducible refine And.intro rfl ?_ | with_reducible refine And.intro (by assumption) ?_ | with_reducible refine cTe (by assumption) ?_ | with_reducible refine cFe (by assumption) ?_ | with_reducible refine cN (cTe (by assumption) ?_) | with_reducible refine cN (cFe (by assumption) ?_) | with_reducible refine cTe rfl ?_ | with_reducible refine cEq (by assumption) ?_ | with_reducible refine cTt ?_ | with_reducible refine cNt ?_ | with_reducible refine cF (Eq.refl false) ?_ | refine And.intro (fun hh => by first | (cases hh; done) | rfl) ?_ | refine And.intro (by omega) ?_ | refine cTd (by omega) ?_ | refine cFd (by omega) ?_ | refine cN (cTd (by omega) ?_) | refine cN (cFd (by omega) ?_) | refine And.intro (by simp only [AV.size, Nat.div_one, List.length_append, List.length_singleton]; omega) ?_)
      (conv => whnf)
      exact ⟨_, Subs.refl' _, 1, ⟨by omega, fun _ => h56, fun h => absurd h (by omega), rfl⟩, by show 2 - 1 < 2 - 0; omega⟩
    · rw [decide_eq_false (fun g => h56 g.1)] at h
      repeat ((conv => whnf) <;> first | exact rfl | refine wI (by omega) ?_ | refine wB (by omega) ?_ | refine wR (by omega) ?_ | refine wQ (by omega) ?_ | with_reducible refine And.intro rfl ?_ | with_reducible refine And.intro (by assumption) ?_ | with_reducible refine cTe (by assumption) ?_ | with_reducible refine cFe (by assumption) ?_ | with_reducible refine cN (cTe (by assumption) ?_) | with_reducible refine cN (cFe (by assumption) ?_) | with_reducible refine cTe rfl ?_ | with_reducible refine cEq (by assumption) ?_ | with_reducible refine cTt ?_ | with_reducible refine cNt ?_ | with_reducible refine cF (Eq.refl false) ?_ | refine And.intro (fun hh => by first | (cases hh; done) | rfl) ?_ | refine And.intro (by omega) ?_ | refine cTd (by omega) ?_ | refine cFd (by omega) ?_ | refine cN (cTd (by omega) ?_) | refine cN (cFd (by omega) ?_) | refine And.intro (by simp only [AV.size, Nat.div_one, List.length_append, List.length_singleton]; omega) ?_)
      refine ⟨.isl .u8 k, rfl, ?_⟩
      repeat ((conv => whnf) <;> first | exact rfl | refine wI (by omega) ?_ | refine wB (by omega) ?_ | refine wR (by omega) ?_ | refine wQ (by omega) ?_ | with_reducible refine And.intro rfl ?_ | with_reducible refine And.intro (by assumption) ?_ | with_reducible refine cTe (by assumption) ?_ | with_reducible refine cFe (by assumption) ?_ | with_reducible refine cN (cTe (by assumption) ?_) | with_reducible refine cN (cFe (by assumption) ?_) | with_reducible refine cTe rfl ?_ | with_reducible refine cEq (by assumption) ?_ | with_reducible refine cTt ?_ | with_reducible refine cNt ?_ | with_reducible refine cF (Eq.refl false) ?_ | refine And.intro (fun hh => by first | (cases hh; done) | rfl) ?_ | refine And.intro (by omega) ?_ | refine cTd (by omega) ?_ | refine cFd (by omega) ?_ | refine cN (cTd (by omega) ?_) | refine cN (cFd (by omega) ?_) | refine And.intro (by simp only [AV.size, Nat.div_one, List.length_append, List.length_singleton]; omega) ?_)
      (conv => whnf)
      exact h
  · by_cases h56 : u.length = 56
    · repeat ((conv => whnf) <;> first | exact rfl | refine wI (by omega) ?_ | refine wB (by omega) ?_ | refine wR (by omega) ?_ | refine wQ (by omega) ?_ | with_reducible refine And.intro rfl ?_ | with_reducible refine And.intro (by assumption) ?_ | with_reducible refine cTe (by assumption) ?_ | with_reducible refine cFe (by assumption) ?_ | with_reducible refine cN (cTe (by assumption) ?_) | with_reducible refine cN (cFe (by assumption) ?_) | with_reducible refine cTe rfl ?_ | with_reducible refine cEq (by assumption) ?_ | with_reducible refine cTt ?_ | with_reducible refine cNt ?_ | with_reducible refine cF (Eq.refl false) ?_ | refine And.intro (fun hh => by first | (cases hh; done) | rfl) ?_ | refine And.intro (by omega) ?_ | refine cTd (by omega) ?_ | refine cFd (by omega) ?_ | refine cN (cTd (by omega) ?_) | refine cN (cFd (by omega) ?_) | refine And.intro (by simp only [AV.size, Nat.div_one, List.length_append, List.length_singleton]; omega) ?_)
      refine ⟨.isl .u8 u, rfl, ?_⟩
      repeat ((conv => whnf) <;> first | exact rfl | refine wI (by omega) ?_ | refine wB (by omega) ?_ | refine wR (by omega) ?_ | refine wQ (by omega) ?_ | with_reducible refine And.intro rfl ?_ | with_reducible refine And.intro (by assumption) ?_ | with_reducible refine cTe (by assumption) ?_ | with_reducible refine cFe (by assumption) ?_ | with_reducible refine cN (cTe (by assumption) ?_) | with_reducible refine cN (cFe (by assumption) ?_) | with_reducible refine cTe rfl ?_ | with_reducible refine cEq (by assumption) ?_ | with_reducible refine cTt ?_ | with_reducible refine cNt ?_ | with_reducible refine cF (Eq.refl false) ?_ | refine And.intro (fun hh => by first | (cases hh; done) | rfl) ?_ | refine And.intro (by omega) ?_ | refine cTd (by omega) ?_ | refine cFd (by omega) ?_ | refine cN (cTd (by omega) ?_) | refine cN (cFd (by omega) ?_) | refine And.intro (by simp only [AV.size, Nat.div_one, List.length_append, List.length_singleton]; omega) ?_)
      (conv => whnf)
      exact ⟨_, Subs.refl' _, 2, ⟨by omega, fun _ => q1 (by omega), fun _ => h56, rfl⟩, by show 2 - 2 < 2 - 1; omega⟩
    · rw [decide_eq_false (fun g => h56 g.2)] at h
      repeat ((conv => whnf) <;> first | exact rfl | refine wI (by omega) ?_ | refine wB (by omega) ?_ | refine wR (by omega) ?_ | refine wQ (by omega) ?_ | with_reducible refine And.intro rfl ?_ | with_reducible refine And.intro (by assumption) ?_ | with_reducible refine cTe (by assumption) ?_ | with_reducible refine cFe (by assumption) ?_ | with_reducible refine cN (cTe (by assumption) ?_) | with_reducible refine cN (cFe (by assumption) ?_) | with_reducible refine cTe rfl ?_ | with_reducible refine cEq (by assumption) ?_ | with_reducible refine cTt ?_ | with_reducible refine cNt ?_ | with_reducible refine cF (Eq.refl false) ?_ | refine And.intro (fun hh => by first | (cases hh; done) | rfl) ?_ | refine And.intro (by omega) ?_ | refine cTd (by omega) ?_ | refine cFd (by omega) ?_ | refine cN (cTd (by omega) ?_) | refine cN (cFd (by omega) ?_) | refine And.intro (by simp only [AV.size, Nat.div_one, List.length_append, List.length_singleton]; omega) ?_)
      refine ⟨.isl .u8 u, rfl, ?_⟩
      repeat ((conv => whnf) <;> first | exact rfl | refine wI (by omega) ?_ | refine wB (by omega) ?_ | refine wR (by omega) ?_ | refine wQ (by omega) ?_ | with_reducible refine And.intro rfl ?_ | with_reducible refine And.intro (by assumption) ?_ | with_reducible refine cTe (by assumption) ?_ | with_reducible refine cFe (by assumption) ?_ | with_reducible refine cN (cTe (by assumption) ?_) | with_reducible refine cN (cFe (by assumption) ?_) | with_reducible refine cTe rfl ?_ | with_reducible refine cEq (by assumption) ?_ | with_reducible refine cTt ?_ | with_reducible refine cNt ?_ | with_reducible refine cF (Eq.refl false) ?_ | refine And.intro (fun hh => by first | (cases hh; done) | rfl) ?_ | refine And.intro (by omega) ?_ | refine cTd (by omega) ?_ | refine cFd (by omega) ?_ | refine cN (cTd (by omega) ?_) | refine cN (cFd (by omega) ?_) | refine And.intro (by simp only [AV.size, Nat.div_one, List.length_append, List.length_singleton]; omega) ?_)
      (conv => whnf)
      exact h
  · rw [decide_eq_true ⟨q1 (by omega), q2 (by omega)⟩] at h
    repeat ((conv => whnf) <;> first | exact rfl | refine wI (by omega) ?_ | refine wB (by omega) ?_ | refine wR (by omega) ?_ | refine wQ (by omega) ?_ | with_reducible refine And.intro rfl ?_ | with_reducible refine And.intro (by assumption) ?_ | with_reducible refine cTe (by assumption) ?_ | with_reducible refine cFe (by assumption) ?_ | with_reducible refine cN (cTe (by assumption) ?_) | with_reducible refine cN (cFe (by assumption) ?_) | with_reducible refine cTe rfl ?_ | with_reducible refine cEq (by assumption) ?_ | with_reducible refine cTt ?_ | with_reducible refine cNt ?_ | with_reducible refine cF (Eq.refl false) ?_ | refine And.intro (fun hh => by first | (cases hh; done) | rfl) ?_ | refine And.intro (by omega) ?_ | refine cTd (by omega) ?_ | refine cFd (by omega) ?_ | refine cN (cTd (by omega) ?_) | refine cN (cFd (by omega) ?_) | refine And.intro (by simp only [AV.size, Nat.div_one, List.length_append, List.length_singleton]; omega) ?_)
    (conv => whnf)
    exact h
theorem tb_sized_ok : Con Try.prog tb_sized.1 tb_sized.2 := con_tree tabNil_ok o_sized [.atom (.var 0)] 1 Try.func51 rfl c_sized aw_sized g_sized
def tjH : Tab := tb_sized :: tb_clamp :: tb_fof2 :: tb_ladder :: tb_zero :: tb_byI :: []
theorem tjH_ok : tjH.OK Try.prog := tab_cons tb_sized_ok <| tab_cons tb_clamp_ok <| tab_cons tb_fof2_ok <| tab_cons tb_ladder_ok <| tab_cons tb_zero_ok <| tab_cons tb_byI_ok <| tab_nil _
def o_x448 : Orc := { ans := [(13, .two ⟨.leaf (.atom (.const (.bool true))), 0, []⟩ ⟨.leaf (.atom (.const (.bool false))), 0, []⟩), (14, .one ⟨.leaf (.atom (.var 0)), 1, []⟩), (17, .one ⟨.tup [.atom (.var 0), .atom (.var 1)], 2, []⟩), (21, .two ⟨.leaf (.atom (.const (.bool true))), 0, []⟩ ⟨.leaf (.atom (.const (.bool false))), 0, []⟩), (25, .one ⟨.tup [.agg [.whole 0 8], .atom (.var 1)], 2, []⟩), (29, .two ⟨.leaf (.atom (.const (.bool true))), 0, []⟩ ⟨.leaf (.atom (.const (.bool false))), 0, []⟩), (33, .one ⟨.leaf (.agg [.whole 0 8]), 1, []⟩), (34, .one ⟨.tup [.agg [.whole 0 8], .atom (.var 1)], 2, []⟩), (39, .two ⟨.leaf (.atom (.const (.bool true))), 0, []⟩ ⟨.leaf (.atom (.const (.bool false))), 0, []⟩), (42, .one ⟨.leaf (.agg [.whole 0 8]), 1, []⟩), (43, .two ⟨.leaf (.atom (.const (.bool true))), 0, []⟩ ⟨.leaf (.atom (.const (.bool false))), 0, []⟩), (44, .one ⟨.leaf (.agg [.whole 0 8]), 1, []⟩), (45, .one ⟨.leaf (.atom (.var 0)), 1, []⟩)], lps := [] }
def t_x448 : Tree :=
  .new <|
  .call2 51 [.atom (.slc 0 0 2 2)] ([([.one (.var 0), .one (.var 1)], 44)], []) (.leaf (.atom (.const (.bool true)))) 0 [] (
    .call 52 [.atom (.var 0)] ([], []) (.tup [.atom (.var 2), .atom (.var 3)]) 2 [] <|
    .calc2 (.binOp .neq 45 (.tmp 20) (.const (.int .i64 0)) 45) 4 [(20, .leaf (.atom (.var 3)))] ([], []) (.leaf (.atom (.const (.bool true)))) 0 (
      .ret ([], []) (.tup [.atom (.const (.slice none 0 0)), .atom (.var 3)])) (.leaf (.atom (.const (.bool false)))) 0 <|
    .call 34 [.atom (.var 1)] ([], []) (.tup [.agg [.whole 4 8], .atom (.var 5)]) 2 [] <|
    .new <|
    .calc2 (.binOp .neq 45 (.tmp 28) (.const (.int .i64 0)) 45) 4 [(28, .leaf (.atom (.var 5)))] ([], []) (.leaf (.atom (.const (.bool true)))) 0 (
      .ret ([], []) (.tup [.atom (.const (.slice none 0 0)), .atom (.var 5)])) (.leaf (.atom (.const (.bool false)))) 0 <|
    .call 16 [.atom (.var 2), .agg [.whole 4 8]] ([], []) (.tup [.agg [.whole 6 8], .atom (.var 7)]) 2 [] <|
    .new <|
    .calc2 (.binOp .neq 45 (.tmp 38) (.const (.int .i64 0)) 45) 4 [(38, .leaf (.atom (.var 7)))] ([], []) (.leaf (.atom (.const (.bool true)))) 0 (
      .ret ([], []) (.tup [.atom (.const (.slice none 0 0)), .atom (.var 7)])) (.leaf (.atom (.const (.bool false)))) 0 <|
    .call2 17 [.agg [.whole 6 8]] ([], []) (.leaf (.atom (.const (.bool true)))) 0 [] (
      .ret ([], []) (.tup [.atom (.const (.slice none 0 0)), .atom (.const (.int .i64 15))])) (.leaf (.atom (.const (.bool false)))) 0 [] <|
    .call 20 [.agg [.whole 6 8]] ([], []) (.leaf (.atom (.var 8))) 1 [] <|
    .ret ([], []) (.tup [.atom (.var 8), .atom (.const (.int .i64 0))])) (.leaf (.atom (.const (.bool false)))) 0 [] <|
  .ret ([], []) (.tup [.atom (.const (.slice none 0 0)), .atom (.const (.int .i64 11))])
theorem c_x448 : compF Try.prog Try.f21 o_x448 (Try.f21.body.getD .skip) (symIn [.atom (.var 0), .atom (.var 1)] Try.f21.ntmps 2) = some t_x448 := by kernel_rfl
theorem g_x448 : goodC Try.prog o_x448.ords (Try.f21.body.getD .skip) = true := by kernel_rfl
def tb_x448 : FuncId × Trans := (21, tX448)
set_option maxRecDepth 100000 in
theorem aw_x448 : ∀ zs Q, tb_x448.2 zs Q → bindLs 0 [.atom (.var 0), .atom (.var 1)] zs fun ae => bif Nat.beq ae.length 2 then AWp Try.prog tjH Q t_x448 [] ae else False := by
  intro zs Q h
  replace h : tX448 zs Q := h
  unfold tX448 at h
  split at h
  case h_2 => exact h.elim
  rename_i k u
  obtain ⟨⟨hb, hu, lk, lu⟩, h1, h2, h3⟩ := h
  have ml : k.length ≤ 100000 ∧ u.length ≤ 100000 := ⟨lk, lu⟩
  by_cases h56 : k.length = 56 ∧ u.length = 56
  case neg =>
    have h' := h1 h56
    repeat ((conv => whnf) <;> first | exact rfl | refine wI (by omega) ?_ | refine wB (by omega) ?_ | refine wR (by omega) ?_ | refine wQ (by omega) ?_ | with_reducible refine And.intro rfl ?_ | with_reducible refine And.intro (by assumption) ?_ | with_reducible refine cTe (by assumption) ?_ | with_reducible refine cFe (by assumption) ?_ | with_reducible refine cN (cTe (by assumption) ?_) | with_reducible refine cN (cFe (by assumption) ?_) | with_reducible refine cTe rfl ?_ | with_reducible refine cEq (by assumption) ?_ | with_reducible refine cTt ?_ | with_reducible refine cNt ?_ | with_reducible refine cF (Eq.refl false) ?_ | refine And.intro (fun hh => by first | (cases hh; done) | rfl) ?_ | refine And.intro (by omega) ?_ | refine cTd (by omega) ?_ | refine cFd (by omega) ?_ | refine cN (cTd (by omega) ?_) | refine cN (cFd (by omega) ?_) | refine And.intro (by simp only [AV.size, Nat.div_one, List.length_append, List.length_singleton]; omega) ?_)
    refine And.intro ⟨rfl, Nat.zero_lt_one⟩ ?_
    repeat ((conv => whnf) <;> first | exact rfl | refine wI (by omega) ?_ | refine wB (by omega) ?_ | refine wR (by omega) ?_ | refine wQ (by omega) ?_ | with_reducible refine And.intro rfl ?_ | with_reducible refine And.intro (by assumption) ?_ | with_reducible refine cTe (by assumption) ?_ | with_reducible refine cFe (by assumption) ?_ | with_reducible refine cN (cTe (by assumption) ?_) | with_reducible refine cN (cFe (by assumption) ?_) | with_reducible refine cTe rfl ?_ | with_reducible refine cEq (by assumption) ?_ | with_reducible refine cTt ?_ | with_reducible refine cNt ?_ | with_reducible refine cF (Eq.refl false) ?_ | refine And.intro (fun hh => by first | (cases hh; done) | rfl) ?_ | refine And.intro (by omega) ?_ | refine cTd (by omega) ?_ | refine cFd (by omega) ?_ | refine cN (cTd (by omega) ?_) | refine cN (cFd (by omega) ?_) | refine And.intro (by simp only [AV.size, Nat.div_one, List.length_append, List.length_singleton]; omega) ?_)
    (conv => whnf)
    exact h'
  have h2' := h2 h56.1 h56.2
  have h3' := h3 h56.1 h56.2
  clear h1 h2 h3
  rw [xU_eq] at h2' h3'
  have mk : By k ∧ k.length = 56 := ⟨hb, h56.1⟩
  have hlu := h56.2
  have lc := clampL_len k
  have mc : By (clampL k) ∧ (clampL k).length ≤ 100000 := ⟨clampL_by hb, by omega⟩
  by_cases hz : ladU (z (bval u)) (nval (clampL k)) = 0
  · have h' := h2' hz
    repeat ((conv => whnf) <;> first | exact rfl | refine wI (by omega) ?_ | refine wB (by omega) ?_ | refine wR (by omega) ?_ | refine wQ (by omega) ?_ | with_reducible refine And.intro rfl ?_ | with_reducible refine And.intro (by assumption) ?_ | with_reducible refine cTe (by assumption) ?_ | with_reducible refine cFe (by assumption) ?_ | with_reducible refine cN (cTe (by assumption) ?_) | with_reducible refine cN (cFe (by assumption) ?_) | with_reducible refine cTe rfl ?_ | with_reducible refine cEq (by assumption) ?_ | with_reducible refine cTt ?_ | with_reducible refine cNt ?_ | with_reducible refine cF (Eq.refl false) ?_ | refine And.intro (fun hh => by first | (cases hh; done) | rfl) ?_ | refine And.intro (by omega) ?_ | refine cTd (by omega) ?_ | refine cFd (by omega) ?_ | refine cN (cTd (by omega) ?_) | refine cN (cFd (by omega) ?_) | refine And.intro (by simp only [AV.size, Nat.div_one, List.length_append, List.length_singleton]; omega) ?_)
    refine And.intro ⟨rfl, Nat.zero_lt_one⟩ ?_
    repeat ((conv => whnf) <;> first | exact rfl | refine wI (by omega) ?_ | refine wB (by omega) ?_ | refine wR (by omega) ?_ | refine wQ (by omega) ?_ | with_reducible refine And.intro rfl ?_ | with_reducible refine And.intro (by assumption) ?_ | with_reducible refine cTe (by assumption) ?_ | with_reducible refine cFe (by assumption) ?_ | with_reducible refine cN (cTe (by assumption) ?_) | with_reducible refine cN (cFe (by assumption) ?_) | with_reducible refine cTe rfl ?_ | with_reducible refine cEq (by assumption) ?_ | with_reducible refine cTt ?_ | with_reducible refine cNt ?_ | with_reducible refine cF (Eq.refl false) ?_ | refine And.intro (fun hh => by first | (cases hh; done) | rfl) ?_ | refine And.intro (by omega) ?_ | refine cTd (by omega) ?_ | refine cFd (by omega) ?_ | refine cN (cTd (by omega) ?_) | refine cN (cFd (by omega) ?_) | refine And.intro (by simp only [AV.size, Nat.div_one, List.length_append, List.length_singleton]; omega) ?_)
    intro _
    repeat ((conv => whnf) <;> first | exact rfl | refine wI (by omega) ?_ | refine wB (by omega) ?_ | refine wR (by omega) ?_ | refine wQ (by omega) ?_ | with_reducible refine And.intro rfl ?_ | with_reducible refine And.intro (by assumption) ?_ | with_reducible refine cTe (by assumption) ?_ | with_reducible refine cFe (by assumption) ?_ | with_reducible refine cN (cTe (by assumption) ?_) | with_reducible refine cN (cFe (by assumption) ?_) | with_reducible refine cTe rfl ?_ | with_reducible refine cEq (by assumption) ?_ | with_reducible refine cTt ?_ | with_reducible refine cNt ?_ | with_reducible refine cF (Eq.refl false) ?_ | refine And.intro (fun hh => by first | (cases hh; done) | rfl) ?_ | refine And.intro (by omega) ?_ | refine cTd (by omega) ?_ | refine cFd (by omega) ?_ | refine cN (cTd (by omega) ?_) | refine cN (cFd (by omega) ?_) | refine And.intro (by simp only [AV.size, Nat.div_one, List.length_append, List.length_singleton]; omega) ?_)
    (conv => whnf)
    exact h'
  · have h' := h3' hz
    repeat ((conv => whnf) <;> first | exact rfl | refine wI (by omega) ?_ | refine wB (by omega) ?_ | refine wR (by omega) ?_ | refine wQ (by omega) ?_ | with_reducible refine And.intro rfl ?_ | with_reducible refine And.intro (by assumption) ?_ | with_reducible refine cTe (by assumption) ?_ | with_reducible refine cFe (by assumption) ?_ | with_reducible refine cN (cTe (by assumption) ?_) | with_reducible refine cN (cFe (by assumption) ?_) | with_reducible refine cTe rfl ?_ | with_reducible refine cEq (by assumption) ?_ | with_reducible refine cTt ?_ | with_reducible refine cNt ?_ | with_reducible refine cF (Eq.refl false) ?_ | refine And.intro (fun hh => by first | (cases hh; done) | rfl) ?_ | refine And.intro (by omega) ?_ | refine cTd (by omega) ?_ | refine cFd (by omega) ?_ | refine cN (cTd (by omega) ?_) | refine cN (cFd (by omega) ?_) | refine And.intro (by simp only [AV.size, Nat.div_one, List.length_append, List.length_singleton]; omega) ?_)
    refine And.intro ⟨rfl, Nat.zero_lt_one⟩ ?_
    repeat ((conv => whnf) <;> first | exact rfl | refine wI (by omega) ?_ | refine wB (by omega) ?_ | refine wR (by omega) ?_ | refine wQ (by omega) ?_ | with_reducible refine And.intro rfl ?_ | with_reducible refine And.intro (by assumption) ?_ | with_reducible refine cTe (by assumption) ?_ | with_reducible refine cFe (by assumption) ?_ | with_reducible refine cN (cTe (by assumption) ?_) | with_reducible refine cN (cFe (by assumption) ?_) | with_reducible refine cTe rfl ?_ | with_reducible refine cEq (by assumption) ?_ | with_reducible refine cTt ?_ | with_reducible refine cNt ?_ | with_reducible refine cF (Eq.refl false) ?_ | refine And.intro (fun hh => by first | (cases hh; done) | rfl) ?_ | refine And.intro (by omega) ?_ | refine cTd (by omega) ?_ | refine cFd (by omega) ?_ | refine cN (cTd (by omega) ?_) | refine cN (cFd (by omega) ?_) | refine And.intro (by simp only [AV.size, Nat.div_one, List.length_append, List.length_singleton]; omega) ?_)
    intro _
    repeat ((conv => whnf) <;> first | exact rfl | refine wI (by omega) ?_ | refine wB (by omega) ?_ | refine wR (by omega) ?_ | refine wQ (by omega) ?_ | with_reducible refine And.intro rfl ?_ | with_reducible refine And.intro (by assumption) ?_ | with_reducible refine cTe (by assumption) ?_ | with_reducible refine cFe (by assumption) ?_ | with_reducible refine cN (cTe (by assumption) ?_) | with_reducible refine cN (cFe (by assumption) ?_) | with_reducible refine cTe rfl ?_ | with_reducible refine cEq (by assumption) ?_ | with_reducible refine cTt ?_ | with_reducible refine cNt ?_ | with_reducible refine cF (Eq.refl false) ?_ | refine And.intro (fun hh => by first | (cases hh; done) | rfl) ?_ | refine And.intro (by omega) ?_ | refine cTd (by omega) ?_ | refine cFd (by omega) ?_ | refine cN (cTd (by omega) ?_) | refine cN (cFd (by omega) ?_) | refine And.intro (by simp only [AV.size, Nat.div_one, List.length_append, List.length_singleton]; omega) ?_)
    (conv => whnf)
    exact h'
theorem tb_x448_ok : Con Try.prog tb_x448.1 tb_x448.2 := con_tree tjH_ok o_x448 [.atom (.var 0), .atom (.var 1)] 2 Try.func21 rfl c_x448 aw_x448 g_x448
def tjI : Tab := tb_int :: tb_byI :: tb_x448 :: []
theorem tjI_ok : tjI.OK Try.prog := tab_cons tb_int_ok <| tab_cons tb_byI_ok <| tab_cons tb_x448_ok <| tab_nil _
def o_public : Orc := { ans := [(5, .one ⟨.leaf (.agg [.whole 0 8]), 1, []⟩), (6, .one ⟨.leaf (.atom (.var 0)), 1, []⟩), (7, .one ⟨.tup [.atom (.var 0), .atom (.var 1)], 2, []⟩)], lps := [] }
def t_public : Tree :=
  .call 28 [.atom (.const (.int .i64 5))] ([], []) (.leaf (.agg [.whole 1 8])) 1 [] <|
  .call 20 [.agg [.whole 1 8]] ([], []) (.leaf (.atom (.var 2))) 1 [] <|
  .call 21 [.atom (.var 0), .atom (.var 2)] ([], []) (.tup [.atom (.var 3), .atom (.var 4)]) 2 [] <|
  .ret ([], []) (.tup [.atom (.var 3), .atom (.var 4)])
theorem c_public : compF Try.prog Try.f24 o_public (Try.f24.body.getD .skip) (symIn [.atom (.var 0)] Try.f24.ntmps 1) = some t_public := by kernel_rfl
theorem g_public : goodC Try.prog o_public.ords (Try.f24.body.getD .skip) = true := by kernel_rfl
def tb_public : FuncId × Trans := (24, tPublic)
set_option maxRecDepth 100000 in
theorem aw_public : ∀ zs Q, tb_public.2 zs Q → bindLs 0 [.atom (.var 0)] zs fun ae => bif Nat.beq ae.length 1 then AWp Try.prog tjI Q t_public [] ae else False := by
  intro zs Q h
  replace h : tPublic zs Q := h
  unfold tPublic at h
  split at h
  case h_2 => exact h.elim
  rename_i k
  obtain ⟨⟨hb, lk⟩, h1, h2, h3⟩ := h
  have i5 : I64 5 := by unfold I64; omega
  have l5 := byF_len (z 5)
  have m5 : By k ∧ By (byF (z 5)) ∧ k.length ≤ 100000 ∧ (byF (z 5)).length ≤ 100000 := ⟨hb, byF_by _, lk, by omega⟩
  repeat ((conv => whnf) <;> first | exact rfl | refine wI (by omega) ?_ | refine wB (by omega) ?_ | refine wR (by omega) ?_ | refine wQ (by omega) ?_ | with_reducible refine And.intro rfl ?_ | with_reducible refine And.intro (by assumption) ?_ | with_reducible refine cTe (by assumption) ?_ | with_reducible refine cFe (by assumption) ?_ | with_reducible refine cN (cTe (by assumption) ?_) | with_reducible refine cN (cFe (by assumption) ?_) | with_reducible refine cTe rfl ?_ | with_reducible refine cEq (by assumption) ?_ | with_reducible refine cTt ?_ | with_reducible refine cNt ?_ | with_reducible refine cF (Eq.refl false) ?_ | refine And.intro (fun hh => by first | (cases hh; done) | rfl) ?_ | refine And.intro (by omega) ?_ | refine cTd (by omega) ?_ | refine cFd (by omega) ?_ | refine cN (cTd (by omega) ?_) | refine cN (cFd (by omega) ?_) | refine And.intro (by simp only [AV.size, Nat.div_one, List.length_append, List.length_singleton]; omega) ?_)
  refine ⟨fun g => ?_, fun g1 g2 g3 => ?_, fun g1 g2 g3 => ?_⟩
  · have h' := h1 (fun e => g ⟨e, l5⟩)
    repeat ((conv => whnf) <;> first | exact rfl | refine wI (by omega) ?_ | refine wB (by omega) ?_ | refine wR (by omega) ?_ | refine wQ (by omega) ?_ | with_reducible refine And.intro rfl ?_ | with_reducible refine And.intro (by assumption) ?_ | with_reducible refine cTe (by assumption) ?_ | with_reducible refine cFe (by assumption) ?_ | with_reducible refine cN (cTe (by assumption) ?_) | with_reducible refine cN (cFe (by assumption) ?_) | with_reducible refine cTe rfl ?_ | with_reducible refine cEq (by assumption) ?_ | with_reducible refine cTt ?_ | with_reducible refine cNt ?_ | with_reducible refine cF (Eq.refl false) ?_ | refine And.intro (fun hh => by first | (cases hh; done) | rfl) ?_ | refine And.intro (by omega) ?_ | refine cTd (by omega) ?_ | refine cFd (by omega) ?_ | refine cN (cTd (by omega) ?_) | refine cN (cFd (by omega) ?_) | refine And.intro (by simp only [AV.size, Nat.div_one, List.length_append, List.length_singleton]; omega) ?_)
    (conv => whnf)
    exact h'
  · have h' := h2 g1 g3
    repeat ((conv => whnf) <;> first | exact rfl | refine wI (by omega) ?_ | refine wB (by omega) ?_ | refine wR (by omega) ?_ | refine wQ (by omega) ?_ | with_reducible refine And.intro rfl ?_ | with_reducible refine And.intro (by assumption) ?_ | with_reducible refine cTe (by assumption) ?_ | with_reducible refine cFe (by assumption) ?_ | with_reducible refine cN (cTe (by assumption) ?_) | with_reducible refine cN (cFe (by assumption) ?_) | with_reducible refine cTe rfl ?_ | with_reducible refine cEq (by assumption) ?_ | with_reducible refine cTt ?_ | with_reducible refine cNt ?_ | with_reducible refine cF (Eq.refl false) ?_ | refine And.intro (fun hh => by first | (cases hh; done) | rfl) ?_ | refine And.intro (by omega) ?_ | refine cTd (by omega) ?_ | refine cFd (by omega) ?_ | refine cN (cTd (by omega) ?_) | refine cN (cFd (by omega) ?_) | refine And.intro (by simp only [AV.size, Nat.div_one, List.length_append, List.length_singleton]; omega) ?_)
    (conv => whnf)
    exact h'
  · have h' := h3 g1 g3
    repeat ((conv => whnf) <;> first | exact rfl | refine wI (by omega) ?_ | refine wB (by omega) ?_ | refine wR (by omega) ?_ | refine wQ (by omega) ?_ | with_reducible refine And.intro rfl ?_ | with_reducible refine And.intro (by assumption) ?_ | with_reducible refine cTe (by assumption) ?_ | with_reducible refine cFe (by assumption) ?_ | with_reducible refine cN (cTe (by assumption) ?_) | with_reducible refine cN (cFe (by assumption) ?_) | with_reducible refine cTe rfl ?_ | with_reducible refine cEq (by assumption) ?_ | with_reducible refine cTt ?_ | with_reducible refine cNt ?_ | with_reducible refine cF (Eq.refl false) ?_ | refine And.intro (fun hh => by first | (cases hh; done) | rfl) ?_ | refine And.intro (by omega) ?_ | refine cTd (by omega) ?_ | refine cFd (by omega) ?_ | refine cN (cTd (by omega) ?_) | refine cN (cFd (by omega) ?_) | refine And.intro (by simp only [AV.size, Nat.div_one, List.length_append, List.length_singleton]; omega) ?_)
    (conv => whnf)
    exact h'
theorem tb_public_ok : Con Try.prog tb_public.1 tb_public.2 := con_tree tjI_ok o_public [.atom (.var 0)] 1 Try.func24 rfl c_public aw_public g_public
def tjJ : Tab := tb_rclamp :: tb_rof :: tb_rladder :: tb_rsame :: tb_rbyI :: []
theorem tjJ_ok : tjJ.OK Try.prog := tab_cons tb_rclamp_ok <| tab_cons tb_rof_ok <| tab_cons tb_rladder_ok <| tab_cons tb_rsame_ok <| tab_cons tb_rbyI_ok <| tab_nil _
def o_rx448 : Orc := { ans := [(7, .one ⟨.leaf (.atom (.var 0)), 1, []⟩), (9, .one ⟨.leaf (.agg [.whole 0 16]), 1, []⟩), (10, .one ⟨.leaf (.agg [.whole 0 16]), 1, []⟩), (11, .one ⟨.leaf (.agg [.whole 0 16]), 1, []⟩), (13, .two ⟨.leaf (.atom (.const (.bool true))), 0, []⟩ ⟨.leaf (.atom (.const (.bool false))), 0, []⟩), (14, .one ⟨.leaf (.agg [.whole 0 16]), 1, []⟩), (15, .one ⟨.leaf (.atom (.var 0)), 1, []⟩)], lps := [] }
def t_rx448 : Tree :=
  .call 53 [.atom (.var 0)] ([], []) (.leaf (.atom (.var 2))) 1 [] <|
  .call 43 [.atom (.var 1)] ([], []) (.leaf (.agg [.whole 3 16])) 1 [] <|
  .call 18 [.atom (.var 2), .agg [.whole 3 16]] ([], []) (.leaf (.agg [.whole 4 16])) 1 [] <|
  .new <|
  .call2 54 [.agg [.whole 4 16], .agg [.lit [.int .i64 0, .int .i64 0, .int .i64 0, .int .i64 0, .int .i64 0, .int .i64 0, .int .i64 0, .int .i64 0, .int .i64 0, .int .i64 0, .int .i64 0, .int .i64 0, .int .i64 0, .int .i64 0, .int .i64 0, .int .i64 0]]] ([], []) (.leaf (.atom (.const (.bool true)))) 0 [] (
    .ret ([], []) (.leaf (.atom (.const (.slice none 0 0))))) (.leaf (.atom (.const (.bool false)))) 0 [] <|
  .call 26 [.agg [.whole 4 16]] ([], []) (.leaf (.atom (.var 5))) 1 [] <|
  .ret ([], []) (.leaf (.atom (.var 5)))
theorem c_rx448 : compF Try.prog Try.f25 o_rx448 (Try.f25.body.getD .skip) (symIn [.atom (.var 0), .atom (.var 1)] Try.f25.ntmps 2) = some t_rx448 := by kernel_rfl
theorem g_rx448 : goodC Try.prog o_rx448.ords (Try.f25.body.getD .skip) = true := by kernel_rfl
def tb_rx448 : FuncId × Trans := (25, tRX448)
set_option maxRecDepth 100000 in
theorem aw_rx448 : ∀ zs Q, tb_rx448.2 zs Q → bindLs 0 [.atom (.var 0), .atom (.var 1)] zs fun ae => bif Nat.beq ae.length 2 then AWp Try.prog tjJ Q t_rx448 [] ae else False := by
  intro zs Q h
  replace h : tRX448 zs Q := h
  unfold tRX448 at h
  split at h
  case h_2 => exact h.elim
  rename_i k u
  obtain ⟨⟨hb, hu, lk, lu⟩, h1, h2⟩ := h
  rw [xU_eq] at h1 h2
  have mk : By k ∧ k.length = 56 := ⟨hb, lk⟩
  have mu : u.length = 56 ∧ By u := ⟨lu, hu⟩
  have lc := clampL_len k
  have mc : By (clampL k) ∧ (clampL k).length ≤ 100000 := ⟨clampL_by hb, by omega⟩
  by_cases hz : ladU (z (bval u)) (nval (clampL k)) = 0
  · have h' := h1 hz
    repeat ((conv => whnf) <;> first | exact rfl | refine wI (by omega) ?_ | refine wB (by omega) ?_ | refine wR (by omega) ?_ | refine wQ (by omega) ?_ | with_reducible refine And.intro rfl ?_ | with_reducible refine And.intro (by assumption) ?_ | with_reducible refine cTe (by assumption) ?_ | with_reducible refine cFe (by assumption) ?_ | with_reducible refine cN (cTe (by assumption) ?_) | with_reducible refine cN (cFe (by assumption) ?_) | with_reducible refine cTe rfl ?_ | with_reducible refine cEq (by assumption) ?_ | with_reducible refine cTt ?_ | with_reducible refine cNt ?_ | with_reducible refine cF (Eq.refl false) ?_ | refine And.intro (fun hh => by first | (cases hh; done) | rfl) ?_ | refine And.intro (by omega) ?_ | refine cTd (by omega) ?_ | refine cFd (by omega) ?_ | refine cN (cTd (by omega) ?_) | refine cN (cFd (by omega) ?_) | refine And.intro (by simp only [AV.size, Nat.div_one, List.length_append, List.length_singleton]; omega) ?_)
    (conv => whnf)
    exact h'
  · have h' := h2 hz
    repeat ((conv => whnf) <;> first | exact rfl | refine wI (by omega) ?_ | refine wB (by omega) ?_ | refine wR (by omega) ?_ | refine wQ (by omega) ?_ | with_reducible refine And.intro rfl ?_ | with_reducible refine And.intro (by assumption) ?_ | with_reducible refine cTe (by assumption) ?_ | with_reducible refine cFe (by assumption) ?_ | with_reducible refine cN (cTe (by assumption) ?_) | with_reducible refine cN (cFe (by assumption) ?_) | with_reducible refine cTe rfl ?_ | with_reducible refine cEq (by assumption) ?_ | with_reducible refine cTt ?_ | with_reducible refine cNt ?_ | with_reducible refine cF (Eq.refl false) ?_ | refine And.intro (fun hh => by first | (cases hh; done) | rfl) ?_ | refine And.intro (by omega) ?_ | refine cTd (by omega) ?_ | refine cFd (by omega) ?_ | refine cN (cTd (by omega) ?_) | refine cN (cFd (by omega) ?_) | refine And.intro (by simp only [AV.size, Nat.div_one, List.length_append, List.length_singleton]; omega) ?_)
    (conv => whnf)
    exact h'
theorem tb_rx448_ok : Con Try.prog tb_rx448.1 tb_rx448.2 := con_tree tjJ_ok o_rx448 [.atom (.var 0), .atom (.var 1)] 2 Try.func25 rfl c_rx448 aw_rx448 g_rx448
end Go.Proofs.Ytmbapbbneapcnaa
