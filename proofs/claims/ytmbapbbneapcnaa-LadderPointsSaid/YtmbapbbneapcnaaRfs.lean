/- The document's sums, shifts, roots -/
import Derived.Test.YtmbapbbneapcnaaRfe
import Derived.Test.YtmbapbbneapcnaaVr
set_option linter.unusedSimpArgs false
set_option linter.unusedVariables false
namespace Go.Proofs.Ytmbapbbneapcnaa
open Go.RowKit FdP FdP.Ch
/-- a sum's bytes: what is carried, the bytes so far -/
def addB (a b : List Int) : Nat → Int × List Int
  | 0 => (0, [])
  | i + 1 => (((addB a b i).1 + a.getD i 0 + b.getD i 0) / 256, (addB a b i).2 ++ [((addB a b i).1 + a.getD i 0 + b.getD i 0) % 256])
theorem addB_s (a b : List Int) (i : Nat) : addB a b (i + 1) = (((addB a b i).1 + a.getD i 0 + b.getD i 0) / 256, (addB a b i).2 ++ [((addB a b i).1 + a.getD i 0 + b.getD i 0) % 256]) := rfl
theorem addB_len (a b : List Int) : ∀ i, (addB a b i).2.length = i
  | 0 => rfl
  | i + 1 => by rw [addB_s]; simp [addB_len a b i]
theorem addB_car {a b : List Int} (ha : By a) (hb : By b) : ∀ i, 0 ≤ (addB a b i).1 ∧ (addB a b i).1 ≤ 1
  | 0 => by simp [addB]
  | i + 1 => by
    have ih := addB_car ha hb i
    have h1 := by_getD' ha i
    have h2 := by_getD' hb i
    rw [addB_s]
    show 0 ≤ (_ + _ + _) / 256 ∧ (_ + _ + _) / 256 ≤ 1
    omega
theorem addB_by {a b : List Int} (ha : By a) (hb : By b) : ∀ i, By (addB a b i).2
  | 0 => fun x hx => by cases hx
  | i + 1 => fun x hx => by
    have ih := addB_by ha hb i
    rw [addB_s] at hx
    rcases List.mem_append.1 hx with hx | hx
    · exact ih x hx
    · simp only [List.mem_singleton] at hx; omega
def mxl (a b : List Int) : Nat := if a.length < b.length then b.length else a.length
def addM (a b : List Int) : Nat := if 0 < (addB a b (mxl a b)).1 then mxl a b + 1 else mxl a b
def addL (a b : List Int) : List Int := (addB a b (addM a b)).2
def tAdd3 : Trans := fun zs Q => match zs with
  | [.isl .u8 a, .isl .u8 b] => (By a ∧ By b ∧ a.length ≤ 100000 ∧ b.length ≤ 100000) ∧ Q (.isl .u8 (cutL (addL a b)))
  | _ => False
/-- a byte of what is shifted, bit by bit -/
def shX (b : List Int) (s : Int) : Nat → Int
  | 0 => 0
  | j + 1 => 2 * shX b s j + bitZ b (s + (7 - (j : Int)))
theorem shX_s (b : List Int) (s : Int) (j : Nat) : shX b s (j + 1) = 2 * shX b s j + bitZ b (s + (7 - (j : Int))) := rfl
theorem shX_bd (b : List Int) (s : Int) : ∀ j, 0 ≤ shX b s j ∧ shX b s j < 2 ^ j
  | 0 => by simp [shX]
  | j + 1 => by
    have ih := shX_bd b s j
    have hb := bitZ_or b (s + (7 - (j : Int)))
    rw [shX_s, Int.pow_succ]
    omega
theorem shX_le (b : List Int) (s : Int) {j : Nat} (h : j ≤ 8) : 0 ≤ shX b s j ∧ shX b s j < 256 := by
  have h1 := shX_bd b s j
  have h2 : (2 : Int) ^ j ≤ 2 ^ 8 := by exact_mod_cast Nat.pow_le_pow_right (by omega) h
  omega
def shB (b : List Int) (n : Int) : Nat → List Int
  | 0 => []
  | m + 1 => shB b n m ++ [shX b (8 * (m : Int) - n) 8]
theorem shB_s (b : List Int) (n : Int) (m : Nat) : shB b n (m + 1) = shB b n m ++ [shX b (8 * (m : Int) - n) 8] := rfl
theorem shB_len (b : List Int) (n : Int) : ∀ m, (shB b n m).length = m
  | 0 => rfl
  | m + 1 => by rw [shB_s]; simp [shB_len b n m]
theorem shB_by (b : List Int) (n : Int) : ∀ m, By (shB b n m)
  | 0 => fun x hx => by cases hx
  | m + 1 => fun x hx => by
    rw [shB_s] at hx
    rcases List.mem_append.1 hx with hx | hx
    · exact shB_by b n m x hx
    · simp only [List.mem_singleton] at hx; subst hx; exact shX_le b _ (Nat.le_refl 8)
def shN (b : List Int) (n : Int) : Nat := (((lenB b : Int) + n + 7) / 8).toNat
def shL (b : List Int) (n : Int) : List Int := shB b n (shN b n)
def tShift3 : Trans := fun zs Q => match zs with
  | [.isl .u8 b, .int .i64 n] => (By b ∧ b.length ≤ 10000 ∧ -10000 ≤ n ∧ n ≤ 10000) ∧ Q (.isl .u8 (cutL (shL b n)))
  | _ => False
theorem zsR' {i i' : Int} {n n' : Nat} {l l' : List Int} (hn : n = n') (hl : l = l') (hi : i = i') : [AV.row n, .ints .u8 l, .int .i64 i] = [.row n', .ints .u8 l', .int .i64 i'] := by rw [hn, hl, hi]
theorem zsX {x x' k k' : Int} {n : Nat} {l : List Int} (hx : x = x') (hk : k = k') : [AV.row n, .ints .u8 l, .int .i64 x, .int .i64 k] = [.row n, .ints .u8 l, .int .i64 x', .int .i64 k'] := by rw [hx, hk]
def o_radd3 : Orc := { ans := [(10, .one ⟨.leaf (.atom (.var 0)), 1, []⟩), (12, .one ⟨.leaf (.atom (.var 0)), 1, []⟩), (13, .one ⟨.leaf (.atom (.var 0)), 1, []⟩), (14, .two ⟨.leaf (.atom (.const (.bool true))), 0, []⟩ ⟨.leaf (.atom (.const (.bool false))), 0, []⟩), (17, .two ⟨.leaf (.atom (.const (.bool true))), 0, []⟩ ⟨.leaf (.atom (.const (.bool false))), 0, []⟩), (18, .one ⟨.leaf (.atom (.var 0)), 1, []⟩), (24, .one ⟨.leaf (.atom (.var 0)), 1, []⟩), (25, .one ⟨.leaf (.atom (.var 0)), 1, []⟩), (28, .one ⟨.leaf (.atom (.var 0)), 1, []⟩), (29, .one ⟨.leaf (.atom (.var 0)), 1, []⟩), (32, .one ⟨.leaf (.atom (.var 0)), 1, []⟩), (33, .one ⟨.leaf (.atom (.var 0)), 1, []⟩), (35, .one ⟨.leaf (.atom (.var 0)), 1, []⟩), (37, .one ⟨.leaf (.atom (.var 0)), 1, []⟩), (20, .one ⟨.leaf (.atom (.var 0)), 1, []⟩), (39, .one ⟨.leaf (.atom (.var 0)), 1, []⟩)], lps := [(0, [.slot 6 [.one], .row 5 5 1, .slot 7 [.one]])] }
def t_radd3 : Tree :=
  .loop [.atom (.const (.int .i64 0)), .atom (.const (.slice none 0 0)), .agg [], .atom (.const (.int .i64 0))] [.one, .one, .row, .one] <|
  .calc (.call { callee := .builtin .len, args := #[.tmp 9], argTypes := #[44] }) 3 [(9, .leaf (.atom (.var 0)))] ([], []) (.leaf (.atom (.var 6))) 1 <|
  .calc (.call { callee := .builtin .len, args := #[.tmp 11], argTypes := #[44] }) 3 [(11, .leaf (.atom (.var 1)))] ([], []) (.leaf (.atom (.var 7))) 1 <|
  .calc (.call { callee := .builtin .max, args := #[.tmp 10, .tmp 12], argTypes := #[3, 3] }) 3 [(10, .leaf (.atom (.var 6))), (12, .leaf (.atom (.var 7)))] ([], []) (.leaf (.atom (.var 8))) 1 <|
  .calc2 (.binOp .lss 3 (.tmp 8) (.tmp 13) 3) 4 [(8, .leaf (.atom (.var 5))), (13, .leaf (.atom (.var 8)))] ([], []) (.leaf (.atom (.const (.bool true)))) 0 (
    .call 76 [.atom (.var 0), .atom (.var 5)] ([], []) (.leaf (.atom (.var 9))) 1 [] <|
    .calc (.binOp .add 3 (.tmp 21) (.tmp 24) 3) 3 [(21, .leaf (.atom (.var 2))), (24, .leaf (.atom (.var 9)))] ([], []) (.leaf (.atom (.var 10))) 1 <|
    .call 76 [.atom (.var 1), .atom (.var 5)] ([], []) (.leaf (.atom (.var 11))) 1 [] <|
    .calc (.binOp .add 3 (.tmp 25) (.tmp 28) 3) 3 [(25, .leaf (.atom (.var 10))), (28, .leaf (.atom (.var 11)))] ([], []) (.leaf (.atom (.var 12))) 1 <|
    .calc (.binOp .rem 3 (.tmp 31) (.const (.int .i64 256)) 3) 3 [(31, .leaf (.atom (.var 12)))] ([], []) (.leaf (.atom (.var 13))) 1 <|
    .calc (.convert 3 5 (.tmp 32)) 5 [(32, .leaf (.atom (.var 13)))] ([], []) (.leaf (.atom (.var 14))) 1 <|
    .new <|
    .app (some 4) [.one (.var 14)] 1 <|
    .calc (.binOp .quo 3 (.tmp 36) (.const (.int .i64 256)) 3) 3 [(36, .leaf (.atom (.var 12)))] ([], []) (.leaf (.atom (.var 17))) 1 <|
    .calc (.binOp .add 3 (.tmp 19) (.const (.int .i64 1)) 3) 3 [(19, .leaf (.atom (.var 5)))] ([], []) (.leaf (.atom (.var 18))) 1 <|
    .again 0 [.atom (.var 17), .atom (.var 15), .agg [.rest 16], .atom (.var 18)]) (.leaf (.atom (.const (.bool false)))) 0 <|
  .calc2 (.binOp .gtr 3 (.tmp 16) (.const (.int .i64 0)) 3) 4 [(16, .leaf (.atom (.var 2)))] ([], []) (.leaf (.atom (.const (.bool true)))) 0 (
    .call 76 [.atom (.var 0), .atom (.var 5)] ([], []) (.leaf (.atom (.var 9))) 1 [] <|
    .calc (.binOp .add 3 (.tmp 21) (.tmp 24) 3) 3 [(21, .leaf (.atom (.var 2))), (24, .leaf (.atom (.var 9)))] ([], []) (.leaf (.atom (.var 10))) 1 <|
    .call 76 [.atom (.var 1), .atom (.var 5)] ([], []) (.leaf (.atom (.var 11))) 1 [] <|
    .calc (.binOp .add 3 (.tmp 25) (.tmp 28) 3) 3 [(25, .leaf (.atom (.var 10))), (28, .leaf (.atom (.var 11)))] ([], []) (.leaf (.atom (.var 12))) 1 <|
    .calc (.binOp .rem 3 (.tmp 31) (.const (.int .i64 256)) 3) 3 [(31, .leaf (.atom (.var 12)))] ([], []) (.leaf (.atom (.var 13))) 1 <|
    .calc (.convert 3 5 (.tmp 32)) 5 [(32, .leaf (.atom (.var 13)))] ([], []) (.leaf (.atom (.var 14))) 1 <|
    .new <|
    .app (some 4) [.one (.var 14)] 1 <|
    .calc (.binOp .quo 3 (.tmp 36) (.const (.int .i64 256)) 3) 3 [(36, .leaf (.atom (.var 12)))] ([], []) (.leaf (.atom (.var 17))) 1 <|
    .calc (.binOp .add 3 (.tmp 19) (.const (.int .i64 1)) 3) 3 [(19, .leaf (.atom (.var 5)))] ([], []) (.leaf (.atom (.var 18))) 1 <|
    .again 0 [.atom (.var 17), .atom (.var 15), .agg [.rest 16], .atom (.var 18)]) (.leaf (.atom (.const (.bool false)))) 0 <|
  .frz 3 4 ([], [⟨3, 4, 5, 1⟩]) <|
  .call 92 [.atom (.var 3)] ([], []) (.leaf (.atom (.var 9))) 1 [] <|
  .ret ([], []) (.leaf (.atom (.var 9)))
def tabSh : Tab := tb_rlen :: tb_rbit :: tb_rcut :: []
theorem tabSh_ok : tabSh.OK Try.prog := tab_cons tb_rlen_ok <| tab_cons tb_rbit_ok <| tab_cons tb_rcut_ok <| tab_nil _
def o_rshift3 : Orc := { ans := [(11, .one ⟨.leaf (.atom (.var 0)), 1, []⟩), (13, .one ⟨.leaf (.atom (.var 0)), 1, []⟩), (16, .two ⟨.leaf (.atom (.const (.bool true))), 0, []⟩ ⟨.leaf (.atom (.const (.bool false))), 0, []⟩), (20, .two ⟨.leaf (.atom (.const (.bool true))), 0, []⟩ ⟨.leaf (.atom (.const (.bool false))), 0, []⟩), (24, .one ⟨.leaf (.atom (.var 0)), 1, []⟩), (28, .one ⟨.leaf (.atom (.var 0)), 1, []⟩), (30, .one ⟨.leaf (.atom (.var 0)), 1, []⟩), (31, .one ⟨.leaf (.atom (.var 0)), 1, []⟩), (32, .one ⟨.leaf (.atom (.var 0)), 1, []⟩), (22, .one ⟨.leaf (.atom (.var 0)), 1, []⟩), (35, .one ⟨.leaf (.atom (.var 0)), 1, []⟩), (37, .one ⟨.leaf (.atom (.var 0)), 1, []⟩), (18, .one ⟨.leaf (.atom (.var 0)), 1, []⟩), (39, .one ⟨.leaf (.atom (.var 0)), 1, []⟩)], lps := [(0, [.row 5 5 1, .slot 7 [.one]]), (2, [.row 5 5 1, .slot 8 [.one], .slot 9 [.one]])] }
def t_rshift3 : Tree :=
  .call 47 [.atom (.var 0)] ([], []) (.leaf (.atom (.var 2))) 1 [] <|
  .calc (.binOp .add 3 (.tmp 11) (.tmp 12) 3) 3 [(11, .leaf (.atom (.var 2))), (12, .leaf (.atom (.var 1)))] ([], []) (.leaf (.atom (.var 3))) 1 <|
  .loop [.atom (.const (.slice none 0 0)), .agg [], .atom (.const (.int .i64 0))] [.one, .row, .one] <|
  .calc2 (.binOp .lss 3 (.tmp 14) (.tmp 15) 3) 4 [(14, .leaf (.atom (.var 6))), (15, .leaf (.atom (.var 3)))] ([], []) (.leaf (.atom (.const (.bool true)))) 0 (
    .loop [.atom (.var 4), .agg [.rest 5], .atom (.const (.int .i64 0)), .atom (.const (.int .i64 7))] [.one, .row, .one, .one] <|
    .calc2 (.binOp .geq 3 (.tmp 19) (.const (.int .i64 0)) 3) 4 [(19, .leaf (.atom (.var 10)))] ([], []) (.leaf (.atom (.const (.bool true)))) 0 (
      .calc (.binOp .mul 3 (.const (.int .i64 2)) (.tmp 23) 3) 3 [(23, .leaf (.atom (.var 9)))] ([], []) (.leaf (.atom (.var 11))) 1 <|
      .calc (.binOp .add 3 (.tmp 26) (.tmp 27) 3) 3 [(26, .leaf (.atom (.var 6))), (27, .leaf (.atom (.var 10)))] ([], []) (.leaf (.atom (.var 12))) 1 <|
      .calc (.binOp .sub 3 (.tmp 28) (.tmp 29) 3) 3 [(28, .leaf (.atom (.var 12))), (29, .leaf (.atom (.var 1)))] ([], []) (.leaf (.atom (.var 13))) 1 <|
      .call 48 [.atom (.var 0), .atom (.var 13)] ([], []) (.leaf (.atom (.var 14))) 1 [] <|
      .calc (.binOp .add 3 (.tmp 24) (.tmp 31) 3) 3 [(24, .leaf (.atom (.var 11))), (31, .leaf (.atom (.var 14)))] ([], []) (.leaf (.atom (.var 15))) 1 <|
      .calc (.binOp .sub 3 (.tmp 21) (.const (.int .i64 1)) 3) 3 [(21, .leaf (.atom (.var 10)))] ([], []) (.leaf (.atom (.var 16))) 1 <|
      .again 1 [.atom (.var 7), .agg [.rest 8], .atom (.var 15), .atom (.var 16)]) (.leaf (.atom (.const (.bool false)))) 0 <|
    .calc (.convert 3 5 (.tmp 34)) 5 [(34, .leaf (.atom (.var 9)))] ([], []) (.leaf (.atom (.var 11))) 1 <|
    .new <|
    .app (some 8) [.one (.var 11)] 1 <|
    .calc (.binOp .add 3 (.tmp 17) (.const (.int .i64 8)) 3) 3 [(17, .leaf (.atom (.var 6)))] ([], []) (.leaf (.atom (.var 14))) 1 <|
    .again 0 [.atom (.var 12), .agg [.rest 13], .atom (.var 14)]) (.leaf (.atom (.const (.bool false)))) 0 <|
  .frz 4 5 ([], [⟨4, 5, 5, 1⟩]) <|
  .call 92 [.atom (.var 4)] ([], []) (.leaf (.atom (.var 7))) 1 [] <|
  .ret ([], []) (.leaf (.atom (.var 7)))
def tNegI : Trans := fun zs Q => match zs with
  | [.ints .i64 l] => (l.length = 16 ∧ 0 ≤ l.getD 0 0) ∧ Q (.bool (dec (l.getD 0 0 % 2 = 1)))
  | _ => False
def o_rnegI : Orc := { ans := [(3, .one ⟨.leaf (.atom (.var 0)), 1, []⟩), (4, .one ⟨.leaf (.atom (.var 0)), 1, []⟩), (5, .one ⟨.leaf (.atom (.var 0)), 1, []⟩), (6, .two ⟨.leaf (.atom (.const (.bool true))), 0, []⟩ ⟨.leaf (.atom (.const (.bool false))), 0, []⟩)], lps := [] }
def t_rnegI : Tree :=
  .new <|
  .calc (.binOp .rem 3 (.tmp 4) (.const (.int .i64 2)) 3) 3 [(4, .leaf (.atom (.cell 0 0)))] ([], []) (.leaf (.atom (.var 1))) 1 <|
  .calc2 (.binOp .eql 3 (.tmp 5) (.const (.int .i64 1)) 3) 4 [(5, .leaf (.atom (.var 1)))] ([], []) (.leaf (.atom (.const (.bool true)))) 0 (
    .ret ([], []) (.leaf (.atom (.const (.bool true))))) (.leaf (.atom (.const (.bool false)))) 0 <|
  .ret ([], []) (.leaf (.atom (.const (.bool false))))
theorem fg_ints (x : F) : Sub (.fg x) (.ints .i64 (dgs x)) := by
  intro β v hv
  obtain rfl := fg_inv (a := .fg x) rfl hv
  exact valR0.mk (a := .ints .i64 (dgs x)) rfl rfl
theorem dgs_0 (x : F) : (dgs x).getD 0 0 = (x.val : Int) % 268435456 := rfl
def tNeg5 : Trans := fun zs Q => match zs with
  | [.fg x] => Q (.bool (dec (x.val % 2 = 1)))
  | _ => False
theorem dec_iff5 {p q : Prop} (h : p ↔ q) : dec p = dec q := by
  by_cases e : p
  · rw [dec_true e, dec_true (h.1 e)]
  · rw [dec_false e, dec_false (fun g => e (h.2 g))]
def tAbs5 : Trans := fun zs Q => match zs with
  | [.fg x] => Q (.fg (abs x))
  | _ => False
def tabAb : Tab := tb_rneg :: []
theorem tabAb_ok : tabAb.OK Try.prog := tab_cons tb_rneg_ok <| tab_nil _
def o_rabs5 : Orc := { ans := [(3, .one ⟨.leaf (.agg [.whole 0 16]), 1, []⟩), (4, .two ⟨.leaf (.atom (.const (.bool true))), 0, []⟩ ⟨.leaf (.atom (.const (.bool false))), 0, []⟩), (5, .one ⟨.leaf (.agg [.whole 0 16]), 1, []⟩), (6, .one ⟨.leaf (.agg [.whole 0 16]), 1, []⟩), (7, .one ⟨.leaf (.agg [.whole 0 16]), 1, []⟩)], lps := [] }
def A1 : List Int := cutL (addL PB [1])
theorem A1_ok : By A1 ∧ A1.length ≤ 10000 := by decide +kernel
def P4 : List Int := cutL (shL A1 (-2))
theorem P4_ok : (By P4 ∧ P4.length ≤ 1000) ∧ nval P4 = (P + 1) / 4 := by decide +kernel
def z16 : AV := .lit (List.replicate 16 (.int .i64 0))
/-- the document's root: 0 and false where there is none -/
def tRoot5 : Trans := fun zs Q => match zs with
  | [.fg x] => (rt x * rt x = x → Q (.tup [.fg (abs (rt x)), .bool true])) ∧ (¬ rt x * rt x = x → Q (.tup [z16, .bool false]))
  | _ => False
def tabRo : Tab := tb_rprime ::   tb_rpow :: tb_rmul :: tb_rsame ::  []
theorem tabRo_ok : tabRo.OK Try.prog := tab_cons tb_rprime_ok <| tab_cons tb_rpow_ok <| tab_cons tb_rmul_ok <| tab_cons tb_rsame_ok <| tab_nil _
def o_rroot5 : Orc := { ans := [(5, .one ⟨.leaf (.agg [.whole 0 16]), 1, []⟩), (6, .one ⟨.leaf (.atom (.var 0)), 1, []⟩), (8, .one ⟨.leaf (.atom (.var 0)), 1, []⟩), (9, .one ⟨.leaf (.atom (.var 0)), 1, []⟩), (10, .one ⟨.leaf (.agg [.whole 0 16]), 1, []⟩), (11, .one ⟨.leaf (.agg [.whole 0 16]), 1, []⟩), (12, .one ⟨.leaf (.agg [.whole 0 16]), 1, []⟩), (13, .one ⟨.leaf (.agg [.whole 0 16]), 1, []⟩), (14, .one ⟨.leaf (.agg [.whole 0 16]), 1, []⟩), (15, .two ⟨.leaf (.atom (.const (.bool true))), 0, []⟩ ⟨.leaf (.atom (.const (.bool false))), 0, []⟩), (16, .one ⟨.leaf (.atom (.var 0)), 1, []⟩), (18, .one ⟨.leaf (.agg [.whole 0 16]), 1, []⟩), (19, .one ⟨.leaf (.agg [.whole 0 16]), 1, []⟩)], lps := [], ords := [(1, [.quiet 0, .call 1 [2, 6], .make 2 [6], .call 3 [6], .call 4 [6], .call 5 [6], .make 6 [], .last 7]), (2, [.quiet 0, .quiet 1, .quiet 3, .call 2 [], .call 4 [], .quiet 5])], rws := [7] }
/-- the document's ratio -/
def tRatio5 : Trans := fun zs Q => match zs with
  | [.fg u, .fg v] => (u = 0 → Q (.tup [z16, .bool true])) ∧ (¬ u = 0 → v = 0 → Q (.tup [z16, .bool false])) ∧ (¬ u = 0 → ¬ v = 0 → Q (.tup [.fg (abs (rat u v)), .bool (dec (v * (rat u v * rat u v) = u))]))
  | _ => False
theorem op_ex (g : F → F) : ∃ f : F → F, f = g := ⟨g, rfl⟩
/-- inverses and roots that the kernel cannot open -/
noncomputable def invO : F → F := (op_ex inv).choose
theorem invO_eq : invO = inv := (op_ex inv).choose_spec
noncomputable def rtO : F → F := (op_ex rt).choose
theorem rtO_eq : rtO = rt := (op_ex rt).choose_spec
noncomputable def absO : F → F := (op_ex abs).choose
theorem absO_eq : absO = abs := (op_ex abs).choose_spec
def tRootO : Trans := fun zs Q => match zs with
  | [.fg x] => (rtO x * rtO x = x → Q (.tup [.fg (absO (rtO x)), .bool true])) ∧ (¬ rtO x * rtO x = x → Q (.tup [z16, .bool false]))
  | _ => False
def tb_rinvO : FuncId × Trans := (tb_rinv.1, tF1 invO)
theorem tb_rinvO_ok : Con Try.prog tb_rinvO.1 tb_rinvO.2 := by
  show Con Try.prog tb_rinv.1 (tF1 invO)
  rw [invO_eq]; exact tb_rinv_ok
theorem ratio_q {u v : F} (hv : ¬ v = 0) : v * (u * inv v) = u := by
  have := mul_inv hv
  grind
theorem ratio_yes {u v : F} (hv : ¬ v = 0) (h : v * (rat u v * rat u v) = u) : rtO (u * invO v) * rtO (u * invO v) = u * invO v ∧ absO (rtO (u * invO v)) = abs (rat u v) := by
  have e : u * inv v = rat u v * rat u v := by
    have := mul_inv hv
    grind
  rw [invO_eq, rtO_eq, absO_eq, e]
  exact ⟨rt_square _, rt_abs _⟩
theorem ratio_no {u v : F} (hu : ¬ u = 0) (hv : ¬ v = 0) (h : ¬ v * (rat u v * rat u v) = u) : ¬ rtO (u * invO v) * rtO (u * invO v) = u * invO v ∧ rtO (-(u * invO v)) * rtO (-(u * invO v)) = -(u * invO v) ∧ absO (rtO (-(u * invO v))) = abs (rat u v) := by
  rw [invO_eq, rtO_eq, absO_eq]
  have h' := (rat_or hu hv).resolve_left h
  have e : -(u * inv v) = rat u v * rat u v := by
    have := mul_inv hv
    grind
  have e0 : u * inv v ≠ 0 := by
    intro hq
    have := ratio_q (u := u) hv
    rw [hq] at this
    exact hu (by grind)
  refine ⟨(rt_neg e0).1 ?_, ?_, ?_⟩
  · rw [e]; exact rt_square _
  · rw [e]; exact rt_square _
  · rw [e]; exact rt_abs _
def tabRa : Tab := tb_rinvO :: tb_rmul ::  tb_rneg :: []
theorem tabRa_ok : tabRa.OK Try.prog := tab_cons tb_rinvO_ok <| tab_cons tb_rmul_ok <| tab_cons tb_rneg_ok <| tab_nil _
def o_rratio5 : Orc := { ans := [(11, .one ⟨.leaf (.agg [.whole 0 16]), 1, []⟩), (12, .one ⟨.leaf (.agg [.whole 0 16]), 1, []⟩), (13, .two ⟨.leaf (.atom (.const (.bool true))), 0, []⟩ ⟨.leaf (.atom (.const (.bool false))), 0, []⟩), (14, .one ⟨.leaf (.agg [.whole 0 16]), 1, []⟩), (15, .one ⟨.leaf (.agg [.whole 0 16]), 1, []⟩), (16, .one ⟨.leaf (.agg [.whole 0 16]), 1, []⟩), (17, .two ⟨.leaf (.atom (.const (.bool true))), 0, []⟩ ⟨.leaf (.atom (.const (.bool false))), 0, []⟩), (18, .one ⟨.leaf (.agg [.whole 0 16]), 1, []⟩), (19, .one ⟨.leaf (.agg [.whole 0 16]), 1, []⟩), (20, .one ⟨.leaf (.agg [.whole 0 16]), 1, []⟩), (21, .one ⟨.leaf (.agg [.whole 0 16]), 1, []⟩), (22, .one ⟨.leaf (.agg [.whole 0 16]), 1, []⟩), (24, .one ⟨.leaf (.agg [.whole 0 16]), 1, []⟩), (25, .one ⟨.tup [.agg [.whole 0 16], .atom (.var 1)], 2, []⟩), (29, .one ⟨.leaf (.agg [.whole 0 16]), 1, []⟩), (31, .one ⟨.leaf (.agg [.whole 0 16]), 1, []⟩), (32, .one ⟨.leaf (.agg [.whole 0 16]), 1, []⟩), (33, .one ⟨.tup [.agg [.whole 0 16], .atom (.var 1)], 2, []⟩), (36, .one ⟨.leaf (.agg [.whole 0 16]), 1, []⟩)], lps := [], ords := [(6, [.quiet 0, .quiet 1, .call 2 [4], .call 3 [4], .make 4 [], .last 5])] }
end Go.Proofs.Ytmbapbbneapcnaa
