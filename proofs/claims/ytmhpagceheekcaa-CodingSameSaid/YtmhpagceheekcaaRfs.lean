/- The document's sums, shifts, roots -/
import Derived.Test.YtmhpagceheekcaaRfe
import Derived.Test.YtmhpagceheekcaaVr
set_option linter.unusedSimpArgs false
set_option linter.unusedVariables false
namespace Go.Proofs.Ytmhpagceheekcaa
open Go.RowKit FdP FdP.Ch
/-- a sum's bytes: what is carried, the bytes so far -/
def addB (a b : List Int) : Nat → Int × List Int
  | 0 => (0, [])
  | i + 1 => (((addB a b i).1 + a.getD i 0 + b.getD i 0) / 256, (addB a b i).2 ++ [((addB a b i).1 + a.getD i 0 + b.getD i 0) % 256])
theorem addB_s (a b : List Int) (i : Nat) : addB a b (i + 1) = (((addB a b i).1 + a.getD i 0 + b.getD i 0) / 256, (addB a b i).2 ++ [((addB a b i).1 + a.getD i 0 + b.getD i 0) % 256]) := rfl
theorem addB_len (a b : List Int) : ∀ i, (addB a b i).2.length = i
  | 0 => rfl
  | i + 1 => by rw [addB_s]; simp [addB_len a b i]
theorem addB_car {a b : List Int} (ha : By a) (hb : By b) : ∀ i, 0 ≤ (addB a b i).1 ∧ (addB a b i).1 ≤ 1
  | 0 => by simp [addB]
  | i + 1 => by
    have ih := addB_car ha hb i
    have h1 := by_getD' ha i
    have h2 := by_getD' hb i
    rw [addB_s]
    show 0 ≤ (_ + _ + _) / 256 ∧ (_ + _ + _) / 256 ≤ 1
    omega
theorem addB_by {a b : List Int} (ha : By a) (hb : By b) : ∀ i, By (addB a b i).2
  | 0 => fun x hx => by cases hx
  | i + 1 => fun x hx => by
    have ih := addB_by ha hb i
    rw [addB_s] at hx
    rcases List.mem_append.1 hx with hx | hx
    · exact ih x hx
    · simp only [List.mem_singleton] at hx; omega
def mxl (a b : List Int) : Nat := if a.length < b.length then b.length else a.length
def addM (a b : List Int) : Nat := if 0 < (addB a b (mxl a b)).1 then mxl a b + 1 else mxl a b
def addL (a b : List Int) : List Int := (addB a b (addM a b)).2
def tAdd3 : Trans := fun zs Q => match zs with
  | [.isl .u8 a, .isl .u8 b] => (By a ∧ By b ∧ a.length ≤ 100000 ∧ b.length ≤ 100000) ∧ Q (.isl .u8 (cutL (addL a b)))
  | _ => False
/-- a byte of what is shifted, bit by bit -/
def shX (b : List Int) (s : Int) : Nat → Int
  | 0 => 0
  | j + 1 => 2 * shX b s j + bitZ b (s + (7 - (j : Int)))
theorem shX_s (b : List Int) (s : Int) (j : Nat) : shX b s (j + 1) = 2 * shX b s j + bitZ b (s + (7 - (j : Int))) := rfl
theorem shX_bd (b : List Int) (s : Int) : ∀ j, 0 ≤ shX b s j ∧ shX b s j < 2 ^ j
  | 0 => by simp [shX]
  | j + 1 => by
    have ih := shX_bd b s j
    have hb := bitZ_or b (s + (7 - (j : Int)))
    rw [shX_s, Int.pow_succ]
    omega
theorem shX_le (b : List Int) (s : Int) {j : Nat} (h : j ≤ 8) : 0 ≤ shX b s j ∧ shX b s j < 256 := by
  have h1 := shX_bd b s j
  have h2 : (2 : Int) ^ j ≤ 2 ^ 8 := by exact_mod_cast Nat.pow_le_pow_right (by omega) h
  omega
def shB (b : List Int) (n : Int) : Nat → List Int
  | 0 => []
  | m + 1 => shB b n m ++ [shX b (8 * (m : Int) - n) 8]
theorem shB_s (b : List Int) (n : Int) (m : Nat) : shB b n (m + 1) = shB b n m ++ [shX b (8 * (m : Int) - n) 8] := rfl
theorem shB_len (b : List Int) (n : Int) : ∀ m, (shB b n m).length = m
  | 0 => rfl
  | m + 1 => by rw [shB_s]; simp [shB_len b n m]
theorem shB_by (b : List Int) (n : Int) : ∀ m, By (shB b n m)
  | 0 => fun x hx => by cases hx
  | m + 1 => fun x hx => by
    rw [shB_s] at hx
    rcases List.mem_append.1 hx with hx | hx
    · exact shB_by b n m x hx
    · simp only [List.mem_singleton] at hx; subst hx; exact shX_le b _ (Nat.le_refl 8)
def shN (b : List Int) (n : Int) : Nat := (((lenB b : Int) + n + 7) / 8).toNat
def shL (b : List Int) (n : Int) : List Int := shB b n (shN b n)
def tShift3 : Trans := fun zs Q => match zs with
  | [.isl .u8 b, .int .i64 n] => (By b ∧ b.length ≤ 10000 ∧ -10000 ≤ n ∧ n ≤ 10000) ∧ Q (.isl .u8 (cutL (shL b n)))
  | _ => False
theorem zsR' {i i' : Int} {n n' : Nat} {l l' : List Int} (hn : n = n') (hl : l = l') (hi : i = i') : [AV.row n, .ints .u8 l, .int .i64 i] = [.row n', .ints .u8 l', .int .i64 i'] := by rw [hn, hl, hi]
theorem zsX {x x' k k' : Int} {n : Nat} {l : List Int} (hx : x = x') (hk : k = k') : [AV.row n, .ints .u8 l, .int .i64 x, .int .i64 k] = [.row n, .ints .u8 l, .int .i64 x', .int .i64 k'] := by rw [hx, hk]
def o_radd3 : Orc := { ans := [(10, .one ⟨.leaf (.atom (.var 0)), 1, []⟩), (12, .one ⟨.leaf (.atom (.var 0)), 1, []⟩), (13, .one ⟨.leaf (.atom (.var 0)), 1, []⟩), (14, .two ⟨.leaf (.atom (.const (.bool true))), 0, []⟩ ⟨.leaf (.atom (.const (.bool false))), 0, []⟩), (17, .two ⟨.leaf (.atom (.const (.bool true))), 0, []⟩ ⟨.leaf (.atom (.const (.bool false))), 0, []⟩), (18, .one ⟨.leaf (.atom (.var 0)), 1, []⟩), (24, .one ⟨.leaf (.atom (.var 0)), 1, []⟩), (25, .one ⟨.leaf (.atom (.var 0)), 1, []⟩), (28, .one ⟨.leaf (.atom (.var 0)), 1, []⟩), (29, .one ⟨.leaf (.atom (.var 0)), 1, []⟩), (32, .one ⟨.leaf (.atom (.var 0)), 1, []⟩), (33, .one ⟨.leaf (.atom (.var 0)), 1, []⟩), (35, .one ⟨.leaf (.atom (.var 0)), 1, []⟩), (37, .one ⟨.leaf (.atom (.var 0)), 1, []⟩), (20, .one ⟨.leaf (.atom (.var 0)), 1, []⟩), (39, .one ⟨.leaf (.atom (.var 0)), 1, []⟩)], lps := [(0, [.slot 6 [.one], .row 5 5 1, .slot 7 [.one]])] }
def t_radd3 : Tree :=
  .loop [.atom (.const (.int .i64 0)), .atom (.const (.slice none 0 0)), .agg [], .atom (.const (.int .i64 0))] [.one, .one, .row, .one] <|
  .calc (.call { callee := .builtin .len, args := #[.tmp 9], argTypes := #[22] }) 3 [(9, .leaf (.atom (.var 0)))] ([], []) (.leaf (.atom (.var 6))) 1 <|
  .calc (.call { callee := .builtin .len, args := #[.tmp 11], argTypes := #[22] }) 3 [(11, .leaf (.atom (.var 1)))] ([], []) (.leaf (.atom (.var 7))) 1 <|
  .calc (.call { callee := .builtin .max, args := #[.tmp 10, .tmp 12], argTypes := #[3, 3] }) 3 [(10, .leaf (.atom (.var 6))), (12, .leaf (.atom (.var 7)))] ([], []) (.leaf (.atom (.var 8))) 1 <|
  .calc2 (.binOp .lss 3 (.tmp 8) (.tmp 13) 3) 4 [(8, .leaf (.atom (.var 5))), (13, .leaf (.atom (.var 8)))] ([], []) (.leaf (.atom (.const (.bool true)))) 0 (
    .call 96 [.atom (.var 0), .atom (.var 5)] ([], []) (.leaf (.atom (.var 9))) 1 [] <|
    .calc (.binOp .add 3 (.tmp 21) (.tmp 24) 3) 3 [(21, .leaf (.atom (.var 2))), (24, .leaf (.atom (.var 9)))] ([], []) (.leaf (.atom (.var 10))) 1 <|
    .call 96 [.atom (.var 1), .atom (.var 5)] ([], []) (.leaf (.atom (.var 11))) 1 [] <|
    .calc (.binOp .add 3 (.tmp 25) (.tmp 28) 3) 3 [(25, .leaf (.atom (.var 10))), (28, .leaf (.atom (.var 11)))] ([], []) (.leaf (.atom (.var 12))) 1 <|
    .calc (.binOp .rem 3 (.tmp 31) (.const (.int .i64 256)) 3) 3 [(31, .leaf (.atom (.var 12)))] ([], []) (.leaf (.atom (.var 13))) 1 <|
    .calc (.convert 3 5 (.tmp 32)) 5 [(32, .leaf (.atom (.var 13)))] ([], []) (.leaf (.atom (.var 14))) 1 <|
    .new <|
    .app (some 4) [.one (.var 14)] 1 <|
    .calc (.binOp .quo 3 (.tmp 36) (.const (.int .i64 256)) 3) 3 [(36, .leaf (.atom (.var 12)))] ([], []) (.leaf (.atom (.var 17))) 1 <|
    .calc (.binOp .add 3 (.tmp 19) (.const (.int .i64 1)) 3) 3 [(19, .leaf (.atom (.var 5)))] ([], []) (.leaf (.atom (.var 18))) 1 <|
    .again 0 [.atom (.var 17), .atom (.var 15), .agg [.rest 16], .atom (.var 18)]) (.leaf (.atom (.const (.bool false)))) 0 <|
  .calc2 (.binOp .gtr 3 (.tmp 16) (.const (.int .i64 0)) 3) 4 [(16, .leaf (.atom (.var 2)))] ([], []) (.leaf (.atom (.const (.bool true)))) 0 (
    .call 96 [.atom (.var 0), .atom (.var 5)] ([], []) (.leaf (.atom (.var 9))) 1 [] <|
    .calc (.binOp .add 3 (.tmp 21) (.tmp 24) 3) 3 [(21, .leaf (.atom (.var 2))), (24, .leaf (.atom (.var 9)))] ([], []) (.leaf (.atom (.var 10))) 1 <|
    .call 96 [.atom (.var 1), .atom (.var 5)] ([], []) (.leaf (.atom (.var 11))) 1 [] <|
    .calc (.binOp .add 3 (.tmp 25) (.tmp 28) 3) 3 [(25, .leaf (.atom (.var 10))), (28, .leaf (.atom (.var 11)))] ([], []) (.leaf (.atom (.var 12))) 1 <|
    .calc (.binOp .rem 3 (.tmp 31) (.const (.int .i64 256)) 3) 3 [(31, .leaf (.atom (.var 12)))] ([], []) (.leaf (.atom (.var 13))) 1 <|
    .calc (.convert 3 5 (.tmp 32)) 5 [(32, .leaf (.atom (.var 13)))] ([], []) (.leaf (.atom (.var 14))) 1 <|
    .new <|
    .app (some 4) [.one (.var 14)] 1 <|
    .calc (.binOp .quo 3 (.tmp 36) (.const (.int .i64 256)) 3) 3 [(36, .leaf (.atom (.var 12)))] ([], []) (.leaf (.atom (.var 17))) 1 <|
    .calc (.binOp .add 3 (.tmp 19) (.const (.int .i64 1)) 3) 3 [(19, .leaf (.atom (.var 5)))] ([], []) (.leaf (.atom (.var 18))) 1 <|
    .again 0 [.atom (.var 17), .atom (.var 15), .agg [.rest 16], .atom (.var 18)]) (.leaf (.atom (.const (.bool false)))) 0 <|
  .frz 3 4 ([], [⟨3, 4, 5, 1⟩]) <|
  .call 95 [.atom (.var 3)] ([], []) (.leaf (.atom (.var 9))) 1 [] <|
  .ret ([], []) (.leaf (.atom (.var 9)))
theorem c_radd3 : compF Try.prog Try.f73 o_radd3 (Try.f73.body.getD .skip) (symIn [.atom (.var 0), .atom (.var 1)] Try.f73.ntmps 2) = some t_radd3 := by kernel_rfl
theorem g_radd3 : goodC Try.prog o_radd3.ords (Try.f73.body.getD .skip) = true := by kernel_rfl
def tb_radd3 : FuncId × Trans := (73, tAdd3)
set_option maxRecDepth 100000 in
theorem aw_radd3 : ∀ zs Q, tb_radd3.2 zs Q → bindLs 0 [.atom (.var 0), .atom (.var 1)] zs fun ae => bif Nat.beq ae.length 2 then AWp Try.prog tabN Q t_radd3 [] ae else False := by
  intro zs Q h
  replace h : tAdd3 zs Q := h
  unfold tAdd3 at h
  split at h
  case h_2 => exact h.elim
  rename_i a b
  obtain ⟨⟨ha, hb, la, lb⟩, h⟩ := h
  have hmx : (mxl a b : Int) = if (b.length : Int) > (a.length : Int) then (b.length : Int) else (a.length : Int) := by unfold mxl; split <;> split <;> omega
  have hml : mxl a b ≤ 100000 := by unfold mxl; split <;> omega
  have hfin : ∀ i : Nat, i ≤ mxl a b + 1 → ¬ i < mxl a b → (addB a b i).1 ≤ 0 → (i = mxl a b + 1 → 0 < (addB a b (mxl a b)).1) → (addB a b i).2 = addL a b := by
    intro i h1 h2 h3 h4
    unfold addL addM
    by_cases e : i = mxl a b
    · subst e; rw [if_neg (by omega)]
    · obtain rfl : i = mxl a b + 1 := by omega
      rw [if_pos (h4 rfl)]
  have hend : (addB a b (mxl a b + 1)).1 = 0 := by
    have h1 := addB_car ha hb (mxl a b)
    have e1 : a.getD (mxl a b) 0 = 0 := by simp [List.getD, List.getElem?_eq_none (show a.length ≤ mxl a b by omega)]
    have e2 : b.getD (mxl a b) 0 = 0 := by simp [List.getD, List.getElem?_eq_none (show b.length ≤ mxl a b by omega)]
    rw [addB_s, e1, e2]
    show (_ + 0 + 0) / 256 = (0 : Int)
    omega
  (conv => whnf)
  refine ⟨Nat, fun i zs => i ≤ mxl a b + 1 ∧ (i = mxl a b + 1 → 0 < (addB a b (mxl a b)).1) ∧ zs = [.int .i64 (addB a b i).1, .row i, .ints .u8 (addB a b i).2, .int .i64 (i : Int)], fun i => mxl a b + 1 - i, 0, ?_, ?_⟩
  · (conv => whnf)
    exact ⟨[.int .i64 0, .row 0, .ints .u8 [], .int .i64 0], ⟨Sub.refl' _, sub_row0, sub_agg0 _, Sub.refl' _, trivial⟩, Nat.zero_le _, fun hh => absurd hh (by omega), rfl⟩
  rintro i _ ⟨hi, hi2, rfl⟩
  have hln := addB_len a b i
  have hca := addB_car ha hb i
  have e0 : ((i : Int)).toNat = i := by omega
  have h1 := by_getD' ha (i : Int).toNat
  have h2 := by_getD' hb (i : Int).toNat
  by_cases hlt : i < mxl a b
  · repeat ((conv => whnf) <;> first | refine wI (by omega) ?_ | refine wB (by omega) ?_ | refine wR (by omega) ?_ | refine wQ (by omega) ?_ | with_reducible refine And.intro rfl ?_ | with_reducible refine And.intro (by assumption) ?_ | with_reducible refine cTe (by assumption) ?_ | with_reducible refine cFe (by assumption) ?_ | with_reducible refine cTt ?_ | with_reducible refine cNt ?_ | refine And.intro (fun hh => by cases hh) ?_ | refine And.intro (by omega) ?_ | refine cTd (by omega) ?_ | refine cFd (by omega) ?_)
    refine ⟨⟨by omega, ha, by omega⟩, ?_⟩
    repeat ((conv => whnf) <;> first | refine wI (by omega) ?_ | refine wB (by omega) ?_ | refine wR (by omega) ?_ | refine wQ (by omega) ?_ | with_reducible refine And.intro rfl ?_ | with_reducible refine And.intro (by assumption) ?_ | with_reducible refine cTe (by assumption) ?_ | with_reducible refine cFe (by assumption) ?_ | with_reducible refine cTt ?_ | with_reducible refine cNt ?_ | refine And.intro (fun hh => by cases hh) ?_ | refine And.intro (by omega) ?_ | refine cTd (by omega) ?_ | refine cFd (by omega) ?_)
    refine ⟨⟨by omega, hb, by omega⟩, ?_⟩
    repeat ((conv => whnf) <;> first | refine wI (by omega) ?_ | refine wB (by omega) ?_ | refine wR (by omega) ?_ | refine wQ (by omega) ?_ | with_reducible refine And.intro rfl ?_ | with_reducible refine And.intro (by assumption) ?_ | with_reducible refine cTe (by assumption) ?_ | with_reducible refine cFe (by assumption) ?_ | with_reducible refine cTt ?_ | with_reducible refine cNt ?_ | refine And.intro (fun hh => by cases hh) ?_ | refine And.intro (by omega) ?_ | refine cTd (by omega) ?_ | refine cFd (by omega) ?_)
    refine And.intro (by simp only [AV.size, List.length_append, List.length_singleton]; omega) ?_
    repeat ((conv => whnf) <;> first | refine wI (by omega) ?_ | refine wB (by omega) ?_ | refine wR (by omega) ?_ | refine wQ (by omega) ?_ | with_reducible refine And.intro rfl ?_ | with_reducible refine And.intro (by assumption) ?_ | with_reducible refine cTe (by assumption) ?_ | with_reducible refine cFe (by assumption) ?_ | with_reducible refine cTt ?_ | with_reducible refine cNt ?_ | refine And.intro (fun hh => by cases hh) ?_ | refine And.intro (by omega) ?_ | refine cTd (by omega) ?_ | refine cFd (by omega) ?_)
    (conv => whnf)
    rw [e0]
    exact ⟨_, Subs.refl' _, i + 1, ⟨by omega, fun hh => absurd hh (by omega), zsR (by rw [addB_s]) (by simp [hln, AV.size]) (by rw [addB_s]) (by omega)⟩, by show mxl a b + 1 - (i + 1) < mxl a b + 1 - i; omega⟩
  · by_cases hov : 0 < (addB a b i).1
    · have hne : i = mxl a b := by
        by_cases e : i = mxl a b + 1
        · subst e; omega
        · omega
      repeat ((conv => whnf) <;> first | refine wI (by omega) ?_ | refine wB (by omega) ?_ | refine wR (by omega) ?_ | refine wQ (by omega) ?_ | with_reducible refine And.intro rfl ?_ | with_reducible refine And.intro (by assumption) ?_ | with_reducible refine cTe (by assumption) ?_ | with_reducible refine cFe (by assumption) ?_ | with_reducible refine cTt ?_ | with_reducible refine cNt ?_ | refine And.intro (fun hh => by cases hh) ?_ | refine And.intro (by omega) ?_ | refine cTd (by omega) ?_ | refine cFd (by omega) ?_)
      refine ⟨⟨by omega, ha, by omega⟩, ?_⟩
      repeat ((conv => whnf) <;> first | refine wI (by omega) ?_ | refine wB (by omega) ?_ | refine wR (by omega) ?_ | refine wQ (by omega) ?_ | with_reducible refine And.intro rfl ?_ | with_reducible refine And.intro (by assumption) ?_ | with_reducible refine cTe (by assumption) ?_ | with_reducible refine cFe (by assumption) ?_ | with_reducible refine cTt ?_ | with_reducible refine cNt ?_ | refine And.intro (fun hh => by cases hh) ?_ | refine And.intro (by omega) ?_ | refine cTd (by omega) ?_ | refine cFd (by omega) ?_)
      refine ⟨⟨by omega, hb, by omega⟩, ?_⟩
      repeat ((conv => whnf) <;> first | refine wI (by omega) ?_ | refine wB (by omega) ?_ | refine wR (by omega) ?_ | refine wQ (by omega) ?_ | with_reducible refine And.intro rfl ?_ | with_reducible refine And.intro (by assumption) ?_ | with_reducible refine cTe (by assumption) ?_ | with_reducible refine cFe (by assumption) ?_ | with_reducible refine cTt ?_ | with_reducible refine cNt ?_ | refine And.intro (fun hh => by cases hh) ?_ | refine And.intro (by omega) ?_ | refine cTd (by omega) ?_ | refine cFd (by omega) ?_)
      refine And.intro (by simp only [AV.size, List.length_append, List.length_singleton]; omega) ?_
      repeat ((conv => whnf) <;> first | refine wI (by omega) ?_ | refine wB (by omega) ?_ | refine wR (by omega) ?_ | refine wQ (by omega) ?_ | with_reducible refine And.intro rfl ?_ | with_reducible refine And.intro (by assumption) ?_ | with_reducible refine cTe (by assumption) ?_ | with_reducible refine cFe (by assumption) ?_ | with_reducible refine cTt ?_ | with_reducible refine cNt ?_ | refine And.intro (fun hh => by cases hh) ?_ | refine And.intro (by omega) ?_ | refine cTd (by omega) ?_ | refine cFd (by omega) ?_)
      (conv => whnf)
      rw [e0]
      exact ⟨_, Subs.refl' _, i + 1, ⟨by omega, fun hh => by rw [← hne]; exact hov, zsR (by rw [addB_s]) (by simp [hln, AV.size]) (by rw [addB_s]) (by omega)⟩, by show mxl a b + 1 - (i + 1) < mxl a b + 1 - i; omega⟩
    · have hf := hfin i hi hlt (by omega) hi2
      have hy := addB_by ha hb i
      rw [← hf] at h
      repeat ((conv => whnf) <;> first | refine wI (by omega) ?_ | refine wB (by omega) ?_ | refine wR (by omega) ?_ | refine wQ (by omega) ?_ | with_reducible refine And.intro rfl ?_ | with_reducible refine And.intro (by assumption) ?_ | with_reducible refine cTe (by assumption) ?_ | with_reducible refine cFe (by assumption) ?_ | with_reducible refine cTt ?_ | with_reducible refine cNt ?_ | refine And.intro (fun hh => by cases hh) ?_ | refine And.intro (by omega) ?_ | refine cTd (by omega) ?_ | refine cFd (by omega) ?_)
      refine ⟨⟨hy, by omega⟩, ?_⟩
      repeat ((conv => whnf) <;> first | refine wI (by omega) ?_ | refine wB (by omega) ?_ | refine wR (by omega) ?_ | refine wQ (by omega) ?_ | with_reducible refine And.intro rfl ?_ | with_reducible refine And.intro (by assumption) ?_ | with_reducible refine cTe (by assumption) ?_ | with_reducible refine cFe (by assumption) ?_ | with_reducible refine cTt ?_ | with_reducible refine cNt ?_ | refine And.intro (fun hh => by cases hh) ?_ | refine And.intro (by omega) ?_ | refine cTd (by omega) ?_ | refine cFd (by omega) ?_)
      (conv => whnf)
      exact h
theorem tb_radd3_ok : Con Try.prog tb_radd3.1 tb_radd3.2 := con_tree tabN_ok o_radd3 [.atom (.var 0), .atom (.var 1)] 2 Try.func73 rfl c_radd3 aw_radd3 g_radd3
def tabSh : Tab := tb_rlen :: tb_rbit :: tb_rcut :: []
theorem tabSh_ok : tabSh.OK Try.prog := tab_cons tb_rlen_ok <| tab_cons tb_rbit_ok <| tab_cons tb_rcut_ok <| tab_nil _
def o_rshift3 : Orc := { ans := [(11, .one ⟨.leaf (.atom (.var 0)), 1, []⟩), (13, .one ⟨.leaf (.atom (.var 0)), 1, []⟩), (16, .two ⟨.leaf (.atom (.const (.bool true))), 0, []⟩ ⟨.leaf (.atom (.const (.bool false))), 0, []⟩), (20, .two ⟨.leaf (.atom (.const (.bool true))), 0, []⟩ ⟨.leaf (.atom (.const (.bool false))), 0, []⟩), (24, .one ⟨.leaf (.atom (.var 0)), 1, []⟩), (28, .one ⟨.leaf (.atom (.var 0)), 1, []⟩), (30, .one ⟨.leaf (.atom (.var 0)), 1, []⟩), (31, .one ⟨.leaf (.atom (.var 0)), 1, []⟩), (32, .one ⟨.leaf (.atom (.var 0)), 1, []⟩), (22, .one ⟨.leaf (.atom (.var 0)), 1, []⟩), (35, .one ⟨.leaf (.atom (.var 0)), 1, []⟩), (37, .one ⟨.leaf (.atom (.var 0)), 1, []⟩), (18, .one ⟨.leaf (.atom (.var 0)), 1, []⟩), (39, .one ⟨.leaf (.atom (.var 0)), 1, []⟩)], lps := [(0, [.row 5 5 1, .slot 7 [.one]]), (2, [.row 5 5 1, .slot 8 [.one], .slot 9 [.one]])] }
def t_rshift3 : Tree :=
  .call 90 [.atom (.var 0)] ([], []) (.leaf (.atom (.var 2))) 1 [] <|
  .calc (.binOp .add 3 (.tmp 11) (.tmp 12) 3) 3 [(11, .leaf (.atom (.var 2))), (12, .leaf (.atom (.var 1)))] ([], []) (.leaf (.atom (.var 3))) 1 <|
  .loop [.atom (.const (.slice none 0 0)), .agg [], .atom (.const (.int .i64 0))] [.one, .row, .one] <|
  .calc2 (.binOp .lss 3 (.tmp 14) (.tmp 15) 3) 4 [(14, .leaf (.atom (.var 6))), (15, .leaf (.atom (.var 3)))] ([], []) (.leaf (.atom (.const (.bool true)))) 0 (
    .loop [.atom (.var 4), .agg [.rest 5], .atom (.const (.int .i64 0)), .atom (.const (.int .i64 7))] [.one, .row, .one, .one] <|
    .calc2 (.binOp .geq 3 (.tmp 19) (.const (.int .i64 0)) 3) 4 [(19, .leaf (.atom (.var 10)))] ([], []) (.leaf (.atom (.const (.bool true)))) 0 (
      .calc (.binOp .mul 3 (.const (.int .i64 2)) (.tmp 23) 3) 3 [(23, .leaf (.atom (.var 9)))] ([], []) (.leaf (.atom (.var 11))) 1 <|
      .calc (.binOp .add 3 (.tmp 26) (.tmp 27) 3) 3 [(26, .leaf (.atom (.var 6))), (27, .leaf (.atom (.var 10)))] ([], []) (.leaf (.atom (.var 12))) 1 <|
      .calc (.binOp .sub 3 (.tmp 28) (.tmp 29) 3) 3 [(28, .leaf (.atom (.var 12))), (29, .leaf (.atom (.var 1)))] ([], []) (.leaf (.atom (.var 13))) 1 <|
      .call 91 [.atom (.var 0), .atom (.var 13)] ([], []) (.leaf (.atom (.var 14))) 1 [] <|
      .calc (.binOp .add 3 (.tmp 24) (.tmp 31) 3) 3 [(24, .leaf (.atom (.var 11))), (31, .leaf (.atom (.var 14)))] ([], []) (.leaf (.atom (.var 15))) 1 <|
      .calc (.binOp .sub 3 (.tmp 21) (.const (.int .i64 1)) 3) 3 [(21, .leaf (.atom (.var 10)))] ([], []) (.leaf (.atom (.var 16))) 1 <|
      .again 1 [.atom (.var 7), .agg [.rest 8], .atom (.var 15), .atom (.var 16)]) (.leaf (.atom (.const (.bool false)))) 0 <|
    .calc (.convert 3 5 (.tmp 34)) 5 [(34, .leaf (.atom (.var 9)))] ([], []) (.leaf (.atom (.var 11))) 1 <|
    .new <|
    .app (some 8) [.one (.var 11)] 1 <|
    .calc (.binOp .add 3 (.tmp 17) (.const (.int .i64 8)) 3) 3 [(17, .leaf (.atom (.var 6)))] ([], []) (.leaf (.atom (.var 14))) 1 <|
    .again 0 [.atom (.var 12), .agg [.rest 13], .atom (.var 14)]) (.leaf (.atom (.const (.bool false)))) 0 <|
  .frz 4 5 ([], [⟨4, 5, 5, 1⟩]) <|
  .call 95 [.atom (.var 4)] ([], []) (.leaf (.atom (.var 7))) 1 [] <|
  .ret ([], []) (.leaf (.atom (.var 7)))
theorem c_rshift3 : compF Try.prog Try.f72 o_rshift3 (Try.f72.body.getD .skip) (symIn [.atom (.var 0), .atom (.var 1)] Try.f72.ntmps 2) = some t_rshift3 := by kernel_rfl
theorem g_rshift3 : goodC Try.prog o_rshift3.ords (Try.f72.body.getD .skip) = true := by kernel_rfl
def tb_rshift3 : FuncId × Trans := (72, tShift3)
set_option maxRecDepth 100000 in
theorem aw_rshift3 : ∀ zs Q, tb_rshift3.2 zs Q → bindLs 0 [.atom (.var 0), .atom (.var 1)] zs fun ae => bif Nat.beq ae.length 2 then AWp Try.prog tabSh Q t_rshift3 [] ae else False := by
  intro zs Q h
  replace h : tShift3 zs Q := h
  unfold tShift3 at h
  split at h
  case h_2 => exact h.elim
  rename_i b n
  obtain ⟨⟨hb, lb, n1, n2⟩, h⟩ := h
  have hle := lenB_le b
  repeat ((conv => whnf) <;> first | refine wI (by omega) ?_ | refine wB (by omega) ?_ | refine wR (by omega) ?_ | refine wQ (by omega) ?_ | with_reducible refine And.intro rfl ?_ | with_reducible refine And.intro (by assumption) ?_ | with_reducible refine cTe (by assumption) ?_ | with_reducible refine cFe (by assumption) ?_ | with_reducible refine cTt ?_ | with_reducible refine cNt ?_ | refine And.intro (fun hh => by cases hh) ?_ | refine And.intro (by omega) ?_ | refine cTd (by omega) ?_ | refine cFd (by omega) ?_)
  refine ⟨⟨hb, by omega⟩, ?_⟩
  repeat ((conv => whnf) <;> first | refine wI (by omega) ?_ | refine wB (by omega) ?_ | refine wR (by omega) ?_ | refine wQ (by omega) ?_ | with_reducible refine And.intro rfl ?_ | with_reducible refine And.intro (by assumption) ?_ | with_reducible refine cTe (by assumption) ?_ | with_reducible refine cFe (by assumption) ?_ | with_reducible refine cTt ?_ | with_reducible refine cNt ?_ | refine And.intro (fun hh => by cases hh) ?_ | refine And.intro (by omega) ?_ | refine cTd (by omega) ?_ | refine cFd (by omega) ?_)
  have hN : (shN b n : Int) = if (lenB b : Int) + n + 7 < 0 then 0 else ((lenB b : Int) + n + 7) / 8 := by unfold shN; split <;> omega
  (conv => whnf)
  refine ⟨Nat, fun m zs => m ≤ shN b n ∧ zs = [.row m, .ints .u8 (shB b n m), .int .i64 (8 * (m : Int))], fun m => shN b n - m, 0, ?_, ?_⟩
  · (conv => whnf)
    exact ⟨[.row 0, .ints .u8 [], .int .i64 0], ⟨sub_row0, sub_agg0 _, Sub.refl' _, trivial⟩, Nat.zero_le _, rfl⟩
  rintro m _ ⟨hm, rfl⟩
  have hln := shB_len b n m
  by_cases hlt : m < shN b n
  · repeat ((conv => whnf) <;> first | refine wI (by omega) ?_ | refine wB (by omega) ?_ | refine wR (by omega) ?_ | refine wQ (by omega) ?_ | with_reducible refine And.intro rfl ?_ | with_reducible refine And.intro (by assumption) ?_ | with_reducible refine cTe (by assumption) ?_ | with_reducible refine cFe (by assumption) ?_ | with_reducible refine cTt ?_ | with_reducible refine cNt ?_ | refine And.intro (fun hh => by cases hh) ?_ | refine And.intro (by omega) ?_ | refine cTd (by omega) ?_ | refine cFd (by omega) ?_)
    (conv => whnf)
    refine ⟨Nat, fun j zs => j ≤ 8 ∧ zs = [.row m, .ints .u8 (shB b n m), .int .i64 (shX b (8 * (m : Int) - n) j), .int .i64 (7 - (j : Int))], fun j => 8 - j, 0, ?_, ?_⟩
    · (conv => whnf)
      exact ⟨_, Subs.refl' _, Nat.zero_le _, zsX rfl rfl⟩
    rintro j _ ⟨hj, rfl⟩
    have hx := shX_le b (8 * (m : Int) - n) hj
    by_cases hjt : j < 8
    · have hbo := bitZ_or b (8 * (m : Int) + (7 - (j : Int)) - n)
      repeat ((conv => whnf) <;> first | refine wI (by omega) ?_ | refine wB (by omega) ?_ | refine wR (by omega) ?_ | refine wQ (by omega) ?_ | with_reducible refine And.intro rfl ?_ | with_reducible refine And.intro (by assumption) ?_ | with_reducible refine cTe (by assumption) ?_ | with_reducible refine cFe (by assumption) ?_ | with_reducible refine cTt ?_ | with_reducible refine cNt ?_ | refine And.intro (fun hh => by cases hh) ?_ | refine And.intro (by omega) ?_ | refine cTd (by omega) ?_ | refine cFd (by omega) ?_)
      refine ⟨⟨hb, by omega, by unfold I64; omega⟩, ?_⟩
      repeat ((conv => whnf) <;> first | refine wI (by omega) ?_ | refine wB (by omega) ?_ | refine wR (by omega) ?_ | refine wQ (by omega) ?_ | with_reducible refine And.intro rfl ?_ | with_reducible refine And.intro (by assumption) ?_ | with_reducible refine cTe (by assumption) ?_ | with_reducible refine cFe (by assumption) ?_ | with_reducible refine cTt ?_ | with_reducible refine cNt ?_ | refine And.intro (fun hh => by cases hh) ?_ | refine And.intro (by omega) ?_ | refine cTd (by omega) ?_ | refine cFd (by omega) ?_)
      (conv => whnf)
      exact ⟨_, Subs.refl' _, j + 1, ⟨by omega, zsX (by rw [shX_s, show 8 * (m : Int) - n + (7 - (j : Int)) = 8 * (m : Int) + (7 - (j : Int)) - n by omega]) (by omega)⟩, by show 8 - (j + 1) < 8 - j; omega⟩
    · obtain rfl : j = 8 := by omega
      repeat ((conv => whnf) <;> first | refine wI (by omega) ?_ | refine wB (by omega) ?_ | refine wR (by omega) ?_ | refine wQ (by omega) ?_ | with_reducible refine And.intro rfl ?_ | with_reducible refine And.intro (by assumption) ?_ | with_reducible refine cTe (by assumption) ?_ | with_reducible refine cFe (by assumption) ?_ | with_reducible refine cTt ?_ | with_reducible refine cNt ?_ | refine And.intro (fun hh => by cases hh) ?_ | refine And.intro (by omega) ?_ | refine cTd (by omega) ?_ | refine cFd (by omega) ?_)
      refine And.intro (by simp only [AV.size, List.length_append, List.length_singleton]; omega) ?_
      repeat ((conv => whnf) <;> first | refine wI (by omega) ?_ | refine wB (by omega) ?_ | refine wR (by omega) ?_ | refine wQ (by omega) ?_ | with_reducible refine And.intro rfl ?_ | with_reducible refine And.intro (by assumption) ?_ | with_reducible refine cTe (by assumption) ?_ | with_reducible refine cFe (by assumption) ?_ | with_reducible refine cTt ?_ | with_reducible refine cNt ?_ | refine And.intro (fun hh => by cases hh) ?_ | refine And.intro (by omega) ?_ | refine cTd (by omega) ?_ | refine cFd (by omega) ?_)
      (conv => whnf)
      exact ⟨_, Subs.refl' _, m + 1, ⟨by omega, zsR' (by simp [hln, AV.size]) rfl (by omega)⟩, by show shN b n - (m + 1) < shN b n - m; omega⟩
  · obtain rfl : m = shN b n := by omega
    have hy := shB_by b n (shN b n)
    have hS : shN b n ≤ 100000 := by unfold shN; omega
    repeat ((conv => whnf) <;> first | refine wI (by omega) ?_ | refine wB (by omega) ?_ | refine wR (by omega) ?_ | refine wQ (by omega) ?_ | with_reducible refine And.intro rfl ?_ | with_reducible refine And.intro (by assumption) ?_ | with_reducible refine cTe (by assumption) ?_ | with_reducible refine cFe (by assumption) ?_ | with_reducible refine cTt ?_ | with_reducible refine cNt ?_ | refine And.intro (fun hh => by cases hh) ?_ | refine And.intro (by omega) ?_ | refine cTd (by omega) ?_ | refine cFd (by omega) ?_)
    refine ⟨⟨hy, by omega⟩, ?_⟩
    repeat ((conv => whnf) <;> first | refine wI (by omega) ?_ | refine wB (by omega) ?_ | refine wR (by omega) ?_ | refine wQ (by omega) ?_ | with_reducible refine And.intro rfl ?_ | with_reducible refine And.intro (by assumption) ?_ | with_reducible refine cTe (by assumption) ?_ | with_reducible refine cFe (by assumption) ?_ | with_reducible refine cTt ?_ | with_reducible refine cNt ?_ | refine And.intro (fun hh => by cases hh) ?_ | refine And.intro (by omega) ?_ | refine cTd (by omega) ?_ | refine cFd (by omega) ?_)
    (conv => whnf)
    exact h
theorem tb_rshift3_ok : Con Try.prog tb_rshift3.1 tb_rshift3.2 := con_tree tabSh_ok o_rshift3 [.atom (.var 0), .atom (.var 1)] 2 Try.func72 rfl c_rshift3 aw_rshift3 g_rshift3
def tNegI : Trans := fun zs Q => match zs with
  | [.ints .i64 l] => (l.length = 16 ∧ 0 ≤ l.getD 0 0) ∧ Q (.bool (dec (l.getD 0 0 % 2 = 1)))
  | _ => False
def o_rnegI : Orc := { ans := [(3, .one ⟨.leaf (.atom (.var 0)), 1, []⟩), (4, .one ⟨.leaf (.atom (.var 0)), 1, []⟩), (5, .one ⟨.leaf (.atom (.var 0)), 1, []⟩), (6, .two ⟨.leaf (.atom (.const (.bool true))), 0, []⟩ ⟨.leaf (.atom (.const (.bool false))), 0, []⟩)], lps := [] }
def t_rnegI : Tree :=
  .new <|
  .calc (.binOp .rem 3 (.tmp 4) (.const (.int .i64 2)) 3) 3 [(4, .leaf (.atom (.cell 0 0)))] ([], []) (.leaf (.atom (.var 1))) 1 <|
  .calc2 (.binOp .eql 3 (.tmp 5) (.const (.int .i64 1)) 3) 4 [(5, .leaf (.atom (.var 1)))] ([], []) (.leaf (.atom (.const (.bool true)))) 0 (
    .ret ([], []) (.leaf (.atom (.const (.bool true))))) (.leaf (.atom (.const (.bool false)))) 0 <|
  .ret ([], []) (.leaf (.atom (.const (.bool false))))
theorem c_rnegI : compF Try.prog Try.f62 o_rnegI (Try.f62.body.getD .skip) (symIn [.agg [.whole 0 16]] Try.f62.ntmps 1) = some t_rnegI := by kernel_rfl
theorem g_rnegI : goodC Try.prog o_rnegI.ords (Try.f62.body.getD .skip) = true := by kernel_rfl
def tb_rnegI : FuncId × Trans := (62, tNegI)
set_option maxRecDepth 100000 in
theorem aw_rnegI : ∀ zs Q, tb_rnegI.2 zs Q → bindLs 0 [.agg [.whole 0 16]] zs fun ae => bif Nat.beq ae.length 1 then AWp Try.prog tabNil Q t_rnegI [] ae else False := by
  intro zs Q h
  replace h : tNegI zs Q := h
  unfold tNegI at h
  split at h
  case h_2 => exact h.elim
  rename_i l
  obtain ⟨⟨hl, h0⟩, h⟩ := h
  by_cases e : l.getD 0 0 % 2 = 1
  · rw [dec_true e] at h
    repeat ((conv => whnf) <;> first | refine wI (by omega) ?_ | refine wB (by omega) ?_ | refine wR (by omega) ?_ | refine wQ (by omega) ?_ | with_reducible refine And.intro rfl ?_ | with_reducible refine And.intro (by assumption) ?_ | with_reducible refine cTe (by assumption) ?_ | with_reducible refine cFe (by assumption) ?_ | with_reducible refine cTt ?_ | with_reducible refine cNt ?_ | refine And.intro (fun hh => by cases hh) ?_ | refine And.intro (by omega) ?_ | refine cTd (by omega) ?_ | refine cFd (by omega) ?_)
    (conv => whnf)
    exact h
  · rw [dec_false e] at h
    repeat ((conv => whnf) <;> first | refine wI (by omega) ?_ | refine wB (by omega) ?_ | refine wR (by omega) ?_ | refine wQ (by omega) ?_ | with_reducible refine And.intro rfl ?_ | with_reducible refine And.intro (by assumption) ?_ | with_reducible refine cTe (by assumption) ?_ | with_reducible refine cFe (by assumption) ?_ | with_reducible refine cTt ?_ | with_reducible refine cNt ?_ | refine And.intro (fun hh => by cases hh) ?_ | refine And.intro (by omega) ?_ | refine cTd (by omega) ?_ | refine cFd (by omega) ?_)
    (conv => whnf)
    exact h
theorem tb_rnegI_ok : Con Try.prog tb_rnegI.1 tb_rnegI.2 := con_tree tabNil_ok o_rnegI [.agg [.whole 0 16]] 1 Try.func62 rfl c_rnegI aw_rnegI g_rnegI
theorem fg_ints (x : F) : Sub (.fg x) (.ints .i64 (dgs x)) := by
  intro β v hv
  obtain rfl := fg_inv (a := .fg x) rfl hv
  exact valR0.mk (a := .ints .i64 (dgs x)) rfl rfl
theorem dgs_0 (x : F) : (dgs x).getD 0 0 = (x.val : Int) % 268435456 := rfl
def tNeg5 : Trans := fun zs Q => match zs with
  | [.fg x] => Q (.bool (dec (x.val % 2 = 1)))
  | _ => False
theorem dec_iff5 {p q : Prop} (h : p ↔ q) : dec p = dec q := by
  by_cases e : p
  · rw [dec_true e, dec_true (h.1 e)]
  · rw [dec_false e, dec_false (fun g => e (h.2 g))]
def tb_rneg5 : FuncId × Trans := (62, tNeg5)
theorem tb_rneg5_ok : Con Try.prog tb_rneg5.1 tb_rneg5.2 := fun w x vals zs Q hx hv hg => by
  replace hg : tNeg5 zs Q := hg
  unfold tNeg5 at hg
  split at hg
  case h_2 => exact hg.elim
  rename_i a
  have hd := dgs_0 a
  refine tb_rnegI_ok w x vals [.ints .i64 (dgs a)] Q hx (Subs.ok (show Subs [.fg a] [.ints .i64 (dgs a)] from ⟨fg_ints a, trivial⟩) hv) ⟨⟨dgs_len a, by omega⟩, ?_⟩
  rw [dec_iff5 (show (dgs a).getD 0 0 % 2 = 1 ↔ a.val % 2 = 1 by omega)]
  exact hg
def tAbs5 : Trans := fun zs Q => match zs with
  | [.fg x] => Q (.fg (abs x))
  | _ => False
def tabAb : Tab := tb_rneg5 :: tb_rneg :: []
theorem tabAb_ok : tabAb.OK Try.prog := tab_cons tb_rneg5_ok <| tab_cons tb_rneg_ok <| tab_nil _
def o_rabs5 : Orc := { ans := [(3, .one ⟨.leaf (.agg [.whole 0 16]), 1, []⟩), (4, .two ⟨.leaf (.atom (.const (.bool true))), 0, []⟩ ⟨.leaf (.atom (.const (.bool false))), 0, []⟩), (5, .one ⟨.leaf (.agg [.whole 0 16]), 1, []⟩), (6, .one ⟨.leaf (.agg [.whole 0 16]), 1, []⟩), (7, .one ⟨.leaf (.agg [.whole 0 16]), 1, []⟩)], lps := [] }
def t_rabs5 : Tree :=
  .new <|
  .new <|
  .call2 62 [.agg [.whole 0 16]] ([], []) (.leaf (.atom (.const (.bool true)))) 0 [] (
    .call 42 [.agg [.whole 0 16]] ([], []) (.leaf (.agg [.whole 1 16])) 1 [] <|
    .ret ([], []) (.leaf (.agg [.whole 1 16]))) (.leaf (.atom (.const (.bool false)))) 0 [] <|
  .ret ([], []) (.leaf (.agg [.whole 0 16]))
theorem c_rabs5 : compF Try.prog Try.f75 o_rabs5 (Try.f75.body.getD .skip) (symIn [.agg [.whole 0 16]] Try.f75.ntmps 1) = some t_rabs5 := by kernel_rfl
theorem g_rabs5 : goodC Try.prog o_rabs5.ords (Try.f75.body.getD .skip) = true := by kernel_rfl
def tb_rabs5 : FuncId × Trans := (75, tAbs5)
set_option maxRecDepth 100000 in
theorem aw_rabs5 : ∀ zs Q, tb_rabs5.2 zs Q → bindLs 0 [.agg [.whole 0 16]] zs fun ae => bif Nat.beq ae.length 1 then AWp Try.prog tabAb Q t_rabs5 [] ae else False := by
  intro zs Q h
  replace h : tAbs5 zs Q := h
  unfold tAbs5 at h
  split at h
  case h_2 => exact h.elim
  rename_i x
  by_cases e : x.val % 2 = 1
  · rw [show abs x = -x from if_pos e] at h
    repeat ((conv => whnf) <;> first | refine wI (by omega) ?_ | refine wB (by omega) ?_ | refine wR (by omega) ?_ | refine wQ (by omega) ?_ | with_reducible refine And.intro rfl ?_ | with_reducible refine And.intro (by assumption) ?_ | with_reducible refine cTe (by assumption) ?_ | with_reducible refine cFe (by assumption) ?_ | with_reducible refine cTt ?_ | with_reducible refine cNt ?_ | refine And.intro (fun hh => by cases hh) ?_ | refine And.intro (by omega) ?_ | refine cTd (by omega) ?_ | refine cFd (by omega) ?_)
    (conv => whnf)
    exact h
  · rw [show abs x = x from if_neg e] at h
    repeat ((conv => whnf) <;> first | refine wI (by omega) ?_ | refine wB (by omega) ?_ | refine wR (by omega) ?_ | refine wQ (by omega) ?_ | with_reducible refine And.intro rfl ?_ | with_reducible refine And.intro (by assumption) ?_ | with_reducible refine cTe (by assumption) ?_ | with_reducible refine cFe (by assumption) ?_ | with_reducible refine cTt ?_ | with_reducible refine cNt ?_ | refine And.intro (fun hh => by cases hh) ?_ | refine And.intro (by omega) ?_ | refine cTd (by omega) ?_ | refine cFd (by omega) ?_)
    (conv => whnf)
    exact h
theorem tb_rabs5_ok : Con Try.prog tb_rabs5.1 tb_rabs5.2 := con_tree tabAb_ok o_rabs5 [.agg [.whole 0 16]] 1 Try.func75 rfl c_rabs5 aw_rabs5 g_rabs5
def A1 : List Int := cutL (addL PB [1])
theorem A1_ok : By A1 ∧ A1.length ≤ 10000 := by decide +kernel
def P4 : List Int := cutL (shL A1 (-2))
theorem P4_ok : (By P4 ∧ P4.length ≤ 1000) ∧ nval P4 = (P + 1) / 4 := by decide +kernel
def z16 : AV := .lit (List.replicate 16 (.int .i64 0))
/-- the document's root: 0 and false where there is none -/
def tRoot5 : Trans := fun zs Q => match zs with
  | [.fg x] => (rt x * rt x = x → Q (.tup [.fg (abs (rt x)), .bool true])) ∧ (¬ rt x * rt x = x → Q (.tup [z16, .bool false]))
  | _ => False
def tabRo : Tab := tb_rprime :: tb_radd3 :: tb_rshift3 :: tb_rpow :: tb_rmul :: tb_rsame :: tb_rabs5 :: []
theorem tabRo_ok : tabRo.OK Try.prog := tab_cons tb_rprime_ok <| tab_cons tb_radd3_ok <| tab_cons tb_rshift3_ok <| tab_cons tb_rpow_ok <| tab_cons tb_rmul_ok <| tab_cons tb_rsame_ok <| tab_cons tb_rabs5_ok <| tab_nil _
def o_rroot5 : Orc := { ans := [(5, .one ⟨.leaf (.agg [.whole 0 16]), 1, []⟩), (6, .one ⟨.leaf (.atom (.var 0)), 1, []⟩), (8, .one ⟨.leaf (.atom (.var 0)), 1, []⟩), (9, .one ⟨.leaf (.atom (.var 0)), 1, []⟩), (10, .one ⟨.leaf (.agg [.whole 0 16]), 1, []⟩), (11, .one ⟨.leaf (.agg [.whole 0 16]), 1, []⟩), (12, .one ⟨.leaf (.agg [.whole 0 16]), 1, []⟩), (13, .one ⟨.leaf (.agg [.whole 0 16]), 1, []⟩), (14, .one ⟨.leaf (.agg [.whole 0 16]), 1, []⟩), (15, .two ⟨.leaf (.atom (.const (.bool true))), 0, []⟩ ⟨.leaf (.atom (.const (.bool false))), 0, []⟩), (16, .one ⟨.leaf (.atom (.var 0)), 1, []⟩), (18, .one ⟨.leaf (.agg [.whole 0 16]), 1, []⟩), (19, .one ⟨.leaf (.agg [.whole 0 16]), 1, []⟩)], lps := [], ords := [(1, [.quiet 0, .call 1 [2, 6], .make 2 [6], .call 3 [6], .call 4 [6], .call 5 [6], .make 6 [], .last 7]), (2, [.quiet 0, .quiet 1, .quiet 3, .call 2 [], .call 4 [], .quiet 5])], rws := [7] }
def t_rroot5 : Tree :=
  .new <|
  .new <|
  .call 74 [] ([], []) (.leaf (.atom (.var 1))) 1 [] <|
  .mkr [.one (.const (.int .u8 1))] 1 <|
  .frz 2 3 ([([.whole 0 16], 34), ([.lit [.int .i64 0, .int .i64 0, .int .i64 0, .int .i64 0, .int .i64 0, .int .i64 0, .int .i64 0, .int .i64 0, .int .i64 0, .int .i64 0, .int .i64 0, .int .i64 0, .int .i64 0, .int .i64 0, .int .i64 0, .int .i64 0]], 34)], [⟨2, 3, 5, 1⟩]) <|
  .call 73 [.atom (.var 1), .atom (.var 2)] ([], []) (.leaf (.atom (.var 4))) 1 [] <|
  .call 72 [.atom (.var 4), .atom (.const (.int .i64 (-2)))] ([], []) (.leaf (.atom (.var 5))) 1 [] <|
  .call 71 [.agg [.whole 0 16], .atom (.var 5)] ([], []) (.leaf (.agg [.whole 6 16])) 1 [] <|
  .new <|
  .call 36 [.agg [.whole 6 16], .agg [.whole 6 16]] ([], []) (.leaf (.agg [.whole 7 16])) 1 [] <|
  .call2 41 [.agg [.whole 7 16], .agg [.whole 0 16]] ([], []) (.leaf (.atom (.const (.bool true)))) 0 [] (
    .call 75 [.agg [.whole 6 16]] ([], []) (.leaf (.agg [.whole 8 16])) 1 [] <|
    .ret ([], []) (.tup [.agg [.whole 8 16], .atom (.const (.bool true))])) (.leaf (.atom (.const (.bool false)))) 0 [] <|
  .ret ([], []) (.tup [.agg [.lit [.int .i64 0, .int .i64 0, .int .i64 0, .int .i64 0, .int .i64 0, .int .i64 0, .int .i64 0, .int .i64 0, .int .i64 0, .int .i64 0, .int .i64 0, .int .i64 0, .int .i64 0, .int .i64 0, .int .i64 0, .int .i64 0]], .atom (.const (.bool false))])
theorem c_rroot5 : compF Try.prog Try.f39 o_rroot5 (Try.f39.body.getD .skip) (symIn [.agg [.whole 0 16]] Try.f39.ntmps 1) = some t_rroot5 := by kernel_rfl
theorem g_rroot5 : goodC Try.prog o_rroot5.ords (Try.f39.body.getD .skip) = true := by kernel_rfl
def tb_rroot5 : FuncId × Trans := (39, tRoot5)
set_option maxRecDepth 100000 in
theorem aw_rroot5 : ∀ zs Q, tb_rroot5.2 zs Q → bindLs 0 [.agg [.whole 0 16]] zs fun ae => bif Nat.beq ae.length 1 then AWp Try.prog tabRo Q t_rroot5 [] ae else False := by
  intro zs Q h
  replace h : tRoot5 zs Q := h
  unfold tRoot5 at h
  split at h
  case h_2 => exact h.elim
  rename_i x
  have e4 : rt x = x ^ nval P4 := by rw [P4_ok.2]; rfl
  replace e4 : rt x = x ^ nval (cutL (shL (cutL (addL PB [1])) (-2))) := e4
  have b1 : By [1] := by intro y hy; simp only [List.mem_singleton] at hy; subst hy; omega
  have hp := PB_len
  rw [e4] at h
  repeat ((conv => whnf) <;> first | refine wI (by omega) ?_ | refine wB (by omega) ?_ | refine wR (by omega) ?_ | refine wQ (by omega) ?_ | with_reducible refine And.intro rfl ?_ | with_reducible refine And.intro (by assumption) ?_ | with_reducible refine cTe (by assumption) ?_ | with_reducible refine cFe (by assumption) ?_ | with_reducible refine cTt ?_ | with_reducible refine cNt ?_ | refine And.intro (fun hh => by cases hh) ?_ | refine And.intro (by omega) ?_ | refine cTd (by omega) ?_ | refine cFd (by omega) ?_)
  refine ⟨⟨PB_by, b1, by omega, by decide⟩, ?_⟩
  repeat ((conv => whnf) <;> first | refine wI (by omega) ?_ | refine wB (by omega) ?_ | refine wR (by omega) ?_ | refine wQ (by omega) ?_ | with_reducible refine And.intro rfl ?_ | with_reducible refine And.intro (by assumption) ?_ | with_reducible refine cTe (by assumption) ?_ | with_reducible refine cFe (by assumption) ?_ | with_reducible refine cTt ?_ | with_reducible refine cNt ?_ | refine And.intro (fun hh => by cases hh) ?_ | refine And.intro (by omega) ?_ | refine cTd (by omega) ?_ | refine cFd (by omega) ?_)
  refine ⟨⟨A1_ok.1, A1_ok.2, by decide, by decide⟩, ?_⟩
  repeat ((conv => whnf) <;> first | refine wI (by omega) ?_ | refine wB (by omega) ?_ | refine wR (by omega) ?_ | refine wQ (by omega) ?_ | with_reducible refine And.intro rfl ?_ | with_reducible refine And.intro (by assumption) ?_ | with_reducible refine cTe (by assumption) ?_ | with_reducible refine cFe (by assumption) ?_ | with_reducible refine cTt ?_ | with_reducible refine cNt ?_ | refine And.intro (fun hh => by cases hh) ?_ | refine And.intro (by omega) ?_ | refine cTd (by omega) ?_ | refine cFd (by omega) ?_)
  refine ⟨⟨P4_ok.1.1, Nat.le_trans P4_ok.1.2 (by omega)⟩, ?_⟩
  repeat ((conv => whnf) <;> first | with_reducible refine cTe (by assumption) ?_ | with_reducible refine cFe (by assumption) ?_ | with_reducible refine cTt ?_ | with_reducible refine cNt ?_)
  generalize cutL (shL (cutL (addL PB [1])) (-2)) = p4 at *
  by_cases e : x ^ nval p4 * x ^ nval p4 = x
  · have h' := h.1 e
    repeat ((conv => whnf) <;> first | with_reducible refine cTe (by assumption) ?_ | with_reducible refine cFe (by assumption) ?_ | with_reducible refine cTt ?_ | with_reducible refine cNt ?_)
    (conv => whnf)
    exact h'
  · have h' := h.2 e
    repeat ((conv => whnf) <;> first | with_reducible refine cTe (by assumption) ?_ | with_reducible refine cFe (by assumption) ?_ | with_reducible refine cTt ?_ | with_reducible refine cNt ?_)
    (conv => whnf)
    exact h'
theorem tb_rroot5_ok : Con Try.prog tb_rroot5.1 tb_rroot5.2 := con_tree tabRo_ok o_rroot5 [.agg [.whole 0 16]] 1 Try.func39 rfl c_rroot5 aw_rroot5 g_rroot5
/-- the document's ratio -/
def tRatio5 : Trans := fun zs Q => match zs with
  | [.fg u, .fg v] => (u = 0 → Q (.tup [z16, .bool true])) ∧ (¬ u = 0 → v = 0 → Q (.tup [z16, .bool false])) ∧ (¬ u = 0 → ¬ v = 0 → Q (.tup [.fg (abs (rat u v)), .bool (dec (v * (rat u v * rat u v) = u))]))
  | _ => False
theorem op_ex (g : F → F) : ∃ f : F → F, f = g := ⟨g, rfl⟩
/-- inverses and roots that the kernel cannot open -/
noncomputable def invO : F → F := (op_ex inv).choose
theorem invO_eq : invO = inv := (op_ex inv).choose_spec
noncomputable def rtO : F → F := (op_ex rt).choose
theorem rtO_eq : rtO = rt := (op_ex rt).choose_spec
noncomputable def absO : F → F := (op_ex abs).choose
theorem absO_eq : absO = abs := (op_ex abs).choose_spec
def tRootO : Trans := fun zs Q => match zs with
  | [.fg x] => (rtO x * rtO x = x → Q (.tup [.fg (absO (rtO x)), .bool true])) ∧ (¬ rtO x * rtO x = x → Q (.tup [z16, .bool false]))
  | _ => False
def tb_rinvO : FuncId × Trans := (tb_rinv.1, tF1 invO)
theorem tb_rinvO_ok : Con Try.prog tb_rinvO.1 tb_rinvO.2 := by
  show Con Try.prog tb_rinv.1 (tF1 invO)
  rw [invO_eq]; exact tb_rinv_ok
def tb_rrootO : FuncId × Trans := (tb_rroot5.1, tRootO)
theorem tb_rrootO_ok : Con Try.prog tb_rrootO.1 tb_rrootO.2 := by
  have e : tRootO = tRoot5 := by unfold tRootO tRoot5; rw [rtO_eq, absO_eq]
  show Con Try.prog tb_rroot5.1 tRootO
  rw [e]; exact tb_rroot5_ok
theorem ratio_q {u v : F} (hv : ¬ v = 0) : v * (u * inv v) = u := by
  have := mul_inv hv
  grind
theorem ratio_yes {u v : F} (hv : ¬ v = 0) (h : v * (rat u v * rat u v) = u) : rtO (u * invO v) * rtO (u * invO v) = u * invO v ∧ absO (rtO (u * invO v)) = abs (rat u v) := by
  have e : u * inv v = rat u v * rat u v := by
    have := mul_inv hv
    grind
  rw [invO_eq, rtO_eq, absO_eq, e]
  exact ⟨rt_square _, rt_abs _⟩
theorem ratio_no {u v : F} (hu : ¬ u = 0) (hv : ¬ v = 0) (h : ¬ v * (rat u v * rat u v) = u) : ¬ rtO (u * invO v) * rtO (u * invO v) = u * invO v ∧ rtO (-(u * invO v)) * rtO (-(u * invO v)) = -(u * invO v) ∧ absO (rtO (-(u * invO v))) = abs (rat u v) := by
  rw [invO_eq, rtO_eq, absO_eq]
  have h' := (rat_or hu hv).resolve_left h
  have e : -(u * inv v) = rat u v * rat u v := by
    have := mul_inv hv
    grind
  have e0 : u * inv v ≠ 0 := by
    intro hq
    have := ratio_q (u := u) hv
    rw [hq] at this
    exact hu (by grind)
  refine ⟨(rt_neg e0).1 ?_, ?_, ?_⟩
  · rw [e]; exact rt_square _
  · rw [e]; exact rt_square _
  · rw [e]; exact rt_abs _
def tabRa : Tab := tb_rinvO :: tb_rmul :: tb_rrootO :: tb_rneg :: []
theorem tabRa_ok : tabRa.OK Try.prog := tab_cons tb_rinvO_ok <| tab_cons tb_rmul_ok <| tab_cons tb_rrootO_ok <| tab_cons tb_rneg_ok <| tab_nil _
def o_rratio5 : Orc := { ans := [(11, .one ⟨.leaf (.agg [.whole 0 16]), 1, []⟩), (12, .one ⟨.leaf (.agg [.whole 0 16]), 1, []⟩), (13, .two ⟨.leaf (.atom (.const (.bool true))), 0, []⟩ ⟨.leaf (.atom (.const (.bool false))), 0, []⟩), (14, .one ⟨.leaf (.agg [.whole 0 16]), 1, []⟩), (15, .one ⟨.leaf (.agg [.whole 0 16]), 1, []⟩), (16, .one ⟨.leaf (.agg [.whole 0 16]), 1, []⟩), (17, .two ⟨.leaf (.atom (.const (.bool true))), 0, []⟩ ⟨.leaf (.atom (.const (.bool false))), 0, []⟩), (18, .one ⟨.leaf (.agg [.whole 0 16]), 1, []⟩), (19, .one ⟨.leaf (.agg [.whole 0 16]), 1, []⟩), (20, .one ⟨.leaf (.agg [.whole 0 16]), 1, []⟩), (21, .one ⟨.leaf (.agg [.whole 0 16]), 1, []⟩), (22, .one ⟨.leaf (.agg [.whole 0 16]), 1, []⟩), (24, .one ⟨.leaf (.agg [.whole 0 16]), 1, []⟩), (25, .one ⟨.tup [.agg [.whole 0 16], .atom (.var 1)], 2, []⟩), (29, .one ⟨.leaf (.agg [.whole 0 16]), 1, []⟩), (31, .one ⟨.leaf (.agg [.whole 0 16]), 1, []⟩), (32, .one ⟨.leaf (.agg [.whole 0 16]), 1, []⟩), (33, .one ⟨.tup [.agg [.whole 0 16], .atom (.var 1)], 2, []⟩), (36, .one ⟨.leaf (.agg [.whole 0 16]), 1, []⟩)], lps := [], ords := [(6, [.quiet 0, .quiet 1, .call 2 [4], .call 3 [4], .make 4 [], .last 5])] }
def t_rratio5 : Tree :=
  .new <|
  .new <|
  .new <|
  .new <|
  .calc2 (.binOp .eql 34 (.tmp 11) (.tmp 12) 34) 4 [(11, .leaf (.agg [.whole 0 16])), (12, .leaf (.agg [.lit [.int .i64 0, .int .i64 0, .int .i64 0, .int .i64 0, .int .i64 0, .int .i64 0, .int .i64 0, .int .i64 0, .int .i64 0, .int .i64 0, .int .i64 0, .int .i64 0, .int .i64 0, .int .i64 0, .int .i64 0, .int .i64 0]]))] ([], []) (.leaf (.atom (.const (.bool true)))) 0 (
    .ret ([], []) (.tup [.agg [.lit [.int .i64 0, .int .i64 0, .int .i64 0, .int .i64 0, .int .i64 0, .int .i64 0, .int .i64 0, .int .i64 0, .int .i64 0, .int .i64 0, .int .i64 0, .int .i64 0, .int .i64 0, .int .i64 0, .int .i64 0, .int .i64 0]], .atom (.const (.bool true))])) (.leaf (.atom (.const (.bool false)))) 0 <|
  .calc2 (.binOp .eql 34 (.tmp 15) (.tmp 16) 34) 4 [(15, .leaf (.agg [.whole 1 16])), (16, .leaf (.agg [.lit [.int .i64 0, .int .i64 0, .int .i64 0, .int .i64 0, .int .i64 0, .int .i64 0, .int .i64 0, .int .i64 0, .int .i64 0, .int .i64 0, .int .i64 0, .int .i64 0, .int .i64 0, .int .i64 0, .int .i64 0, .int .i64 0]]))] ([], []) (.leaf (.atom (.const (.bool true)))) 0 (
    .ret ([], []) (.tup [.agg [.lit [.int .i64 0, .int .i64 0, .int .i64 0, .int .i64 0, .int .i64 0, .int .i64 0, .int .i64 0, .int .i64 0, .int .i64 0, .int .i64 0, .int .i64 0, .int .i64 0, .int .i64 0, .int .i64 0, .int .i64 0, .int .i64 0]], .atom (.const (.bool false))])) (.leaf (.atom (.const (.bool false)))) 0 <|
  .call 40 [.agg [.whole 1 16]] ([], []) (.leaf (.agg [.whole 2 16])) 1 [] <|
  .call 36 [.agg [.whole 0 16], .agg [.whole 2 16]] ([], []) (.leaf (.agg [.whole 3 16])) 1 [] <|
  .new <|
  .call 39 [.agg [.whole 3 16]] ([], []) (.tup [.agg [.whole 4 16], .atom (.var 5)]) 2 [] <|
  .new <|
  .ite (.var 5) (
    .ret ([], []) (.tup [.agg [.whole 4 16], .atom (.const (.bool true))])) <|
  .call 42 [.agg [.whole 3 16]] ([], []) (.leaf (.agg [.whole 6 16])) 1 [] <|
  .call 39 [.agg [.whole 6 16]] ([], []) (.tup [.agg [.whole 7 16], .atom (.var 8)]) 2 [] <|
  .ret ([], []) (.tup [.agg [.whole 7 16], .atom (.const (.bool false))])
end Go.Proofs.Ytmhpagceheekcaa
