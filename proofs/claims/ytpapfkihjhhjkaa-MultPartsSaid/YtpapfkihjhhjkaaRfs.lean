/- The document's sums, shifts, roots -/
import Derived.Test.YtpapfkihjhhjkaaRfe
import Derived.Test.YtpapfkihjhhjkaaVr
set_option linter.unusedSimpArgs false
set_option linter.unusedVariables false
namespace Go.Proofs.Ytpapfkihjhhjkaa
open Go.RowKit FdP FdP.Ch
def addB (a b : List Int) : Nat → Int × List Int
  | 0 => (0, [])
  | i + 1 => (((addB a b i).1 + a.getD i 0 + b.getD i 0) / 256, (addB a b i).2 ++ [((addB a b i).1 + a.getD i 0 + b.getD i 0) % 256])
theorem addB_s (a b : List Int) (i : Nat) : addB a b (i + 1) = (((addB a b i).1 + a.getD i 0 + b.getD i 0) / 256, (addB a b i).2 ++ [((addB a b i).1 + a.getD i 0 + b.getD i 0) % 256]) := rfl
theorem addB_len (a b : List Int) : ∀ i, (addB a b i).2.length = i
  | 0 => rfl
  | i + 1 => by rw [addB_s]; simp [addB_len a b i]
theorem addB_car {a b : List Int} (ha : By a) (hb : By b) : ∀ i, 0 ≤ (addB a b i).1 ∧ (addB a b i).1 ≤ 1
  | 0 => by simp [addB]
  | i + 1 => by
    have ih := addB_car ha hb i
    have h1 := by_getD' ha i
    have h2 := by_getD' hb i
    rw [addB_s]
    show 0 ≤ (_ + _ + _) / 256 ∧ (_ + _ + _) / 256 ≤ 1
    omega
theorem addB_by {a b : List Int} (ha : By a) (hb : By b) : ∀ i, By (addB a b i).2
  | 0 => fun x hx => by cases hx
  | i + 1 => fun x hx => by
    have ih := addB_by ha hb i
    rw [addB_s] at hx
    rcases List.mem_append.1 hx with hx | hx
    · exact ih x hx
    · simp only [List.mem_singleton] at hx; omega
def mxl (a b : List Int) : Nat := if a.length < b.length then b.length else a.length
def addM (a b : List Int) : Nat := if 0 < (addB a b (mxl a b)).1 then mxl a b + 1 else mxl a b
def addL (a b : List Int) : List Int := (addB a b (addM a b)).2
def tAdd3 : Trans := fun zs Q => match zs with
  | [.isl .u8 a, .isl .u8 b] => (By a ∧ By b ∧ a.length ≤ 100000 ∧ b.length ≤ 100000) ∧ Q (.isl .u8 (cutL (addL a b)))
  | _ => False
def o_radd3 : Orc := { ans := [(10, oV), (12, oV), (13, oV), (14, oB), (17, oB), (18, oV), (24, oV), (25, oV), (28, oV), (29, oV), (32, oV), (33, oV), (35, oV), (37, oV), (20, oV), (39, oV)], lps := [(0, [.slot 6 [.one], .row 5 5 1, .slot 7 [.one]])] }
def t_radd3 : Tree :=
 .loop [.atom (.const (.int .i64 0)), .atom (.const (.slice none 0 0)), .agg [], .atom (.const (.int .i64 0))] [.one, .one, .row, .one] <|
 .calc (.call { callee := .builtin .len, args := #[.tmp 9], argTypes := #[22] }) 3 [(9, qv 0)] ([], []) (qv 6) 1 <|
 .calc (.call { callee := .builtin .len, args := #[.tmp 11], argTypes := #[22] }) 3 [(11, qv 1)] ([], []) (qv 7) 1 <|
 .calc (.call { callee := .builtin .max, args := #[.tmp 10, .tmp 12], argTypes := #[3, 3] }) 3 [(10, qv 6), (12, qv 7)] ([], []) (qv 8) 1 <|
 .calc2 (.binOp .lss 3 (.tmp 8) (.tmp 13) 3) 4 [(8, qv 5), (13, qv 8)] ([], []) qT 0 (
 .call 34 [.atom (.var 0), .atom (.var 5)] ([], []) (qv 9) 1 [] <|
 .calc (.binOp .add 3 (.tmp 21) (.tmp 24) 3) 3 [(21, qv 2), (24, qv 9)] ([], []) (qv 10) 1 <|
 .call 34 [.atom (.var 1), .atom (.var 5)] ([], []) (qv 11) 1 [] <|
 .calc (.binOp .add 3 (.tmp 25) (.tmp 28) 3) 3 [(25, qv 10), (28, qv 11)] ([], []) (qv 12) 1 <|
 .calc (.binOp .rem 3 (.tmp 31) (.const (.int .i64 256)) 3) 3 [(31, qv 12)] ([], []) (qv 13) 1 <|
 .calc (.convert 3 5 (.tmp 32)) 5 [(32, qv 13)] ([], []) (qv 14) 1 <|
 .new <|
 .app (some 4) [.one (.var 14)] 1 <|
 .calc (.binOp .quo 3 (.tmp 36) (.const (.int .i64 256)) 3) 3 [(36, qv 12)] ([], []) (qv 17) 1 <|
 .calc (.binOp .add 3 (.tmp 19) (.const (.int .i64 1)) 3) 3 [(19, qv 5)] ([], []) (qv 18) 1 <|
 .again 0 [.atom (.var 17), .atom (.var 15), .agg [.rest 16], .atom (.var 18)]) qF 0 <|
 .calc2 (.binOp .gtr 3 (.tmp 16) (.const (.int .i64 0)) 3) 4 [(16, qv 2)] ([], []) qT 0 (
 .call 34 [.atom (.var 0), .atom (.var 5)] ([], []) (qv 9) 1 [] <|
 .calc (.binOp .add 3 (.tmp 21) (.tmp 24) 3) 3 [(21, qv 2), (24, qv 9)] ([], []) (qv 10) 1 <|
 .call 34 [.atom (.var 1), .atom (.var 5)] ([], []) (qv 11) 1 [] <|
 .calc (.binOp .add 3 (.tmp 25) (.tmp 28) 3) 3 [(25, qv 10), (28, qv 11)] ([], []) (qv 12) 1 <|
 .calc (.binOp .rem 3 (.tmp 31) (.const (.int .i64 256)) 3) 3 [(31, qv 12)] ([], []) (qv 13) 1 <|
 .calc (.convert 3 5 (.tmp 32)) 5 [(32, qv 13)] ([], []) (qv 14) 1 <|
 .new <|
 .app (some 4) [.one (.var 14)] 1 <|
 .calc (.binOp .quo 3 (.tmp 36) (.const (.int .i64 256)) 3) 3 [(36, qv 12)] ([], []) (qv 17) 1 <|
 .calc (.binOp .add 3 (.tmp 19) (.const (.int .i64 1)) 3) 3 [(19, qv 5)] ([], []) (qv 18) 1 <|
 .again 0 [.atom (.var 17), .atom (.var 15), .agg [.rest 16], .atom (.var 18)]) qF 0 <|
 .frz 3 4 ([], [⟨3, 4, 5, 1⟩]) <|
 .call 35 [.atom (.var 3)] ([], []) (qv 9) 1 [] <|
 .ret ([], []) (qv 9)
theorem c_radd3 : compF Try.prog Try.f14 o_radd3 (Try.f14.body.getD .skip) (symIn [.atom (.var 0), .atom (.var 1)] Try.f14.ntmps 2) = some t_radd3 := by kernel_rfl
theorem g_radd3 : goodC Try.prog o_radd3.ords (Try.f14.body.getD .skip) = true := by kernel_rfl
def tb_radd3 : FuncId × Trans := (14, tAdd3)
set_option maxRecDepth 100000 in
theorem aw_radd3 : ∀ zs Q, tb_radd3.2 zs Q → bindLs 0 [.atom (.var 0), .atom (.var 1)] zs fun ae => bif Nat.beq ae.length 2 then AWp Try.prog tabN Q t_radd3 [] ae else False := by
  intro zs Q h
  replace h : tAdd3 zs Q := h
  unfold tAdd3 at h
  split at h
  case h_2 => exact h.elim
  rename_i a b
  obtain ⟨⟨ha, hb, la, lb⟩, h⟩ := h
  have hmx : (mxl a b : Int) = if (b.length : Int) > (a.length : Int) then (b.length : Int) else (a.length : Int) := by unfold mxl; split <;> split <;> omega
  have hml : mxl a b ≤ 100000 := by unfold mxl; split <;> omega
  have hfin : ∀ i : Nat, i ≤ mxl a b + 1 → ¬ i < mxl a b → (addB a b i).1 ≤ 0 → (i = mxl a b + 1 → 0 < (addB a b (mxl a b)).1) → (addB a b i).2 = addL a b := by
    intro i h1 h2 h3 h4
    unfold addL addM
    by_cases e : i = mxl a b
    · subst e; rw [if_neg (by omega)]
    · obtain rfl : i = mxl a b + 1 := by omega
      rw [if_pos (h4 rfl)]
  have hend : (addB a b (mxl a b + 1)).1 = 0 := by
    have h1 := addB_car ha hb (mxl a b)
    have e1 : a.getD (mxl a b) 0 = 0 := by simp [List.getD, List.getElem?_eq_none (show a.length ≤ mxl a b by omega)]
    have e2 : b.getD (mxl a b) 0 = 0 := by simp [List.getD, List.getElem?_eq_none (show b.length ≤ mxl a b by omega)]
    rw [addB_s, e1, e2]
    show (_ + 0 + 0) / 256 = (0 : Int)
    omega
  (conv => whnf)
  refine ⟨Nat, fun i zs => i ≤ mxl a b + 1 ∧ (i = mxl a b + 1 → 0 < (addB a b (mxl a b)).1) ∧ zs = [.int .i64 (addB a b i).1, .row i, .ints .u8 (addB a b i).2, .int .i64 (i : Int)], fun i => mxl a b + 1 - i, 0, ?_, ?_⟩
  · (conv => whnf)
    exact ⟨[.int .i64 0, .row 0, .ints .u8 [], .int .i64 0], ⟨Sub.refl' _, sub_row0, sub_agg0 _, Sub.refl' _, trivial⟩, Nat.zero_le _, fun hh => absurd hh (by omega), rfl⟩
  rintro i _ ⟨hi, hi2, rfl⟩
  have hln := addB_len a b i
  have hca := addB_car ha hb i
  have e0 : ((i : Int)).toNat = i := by omega
  have h1 := by_getD' ha (i : Int).toNat
  have h2 := by_getD' hb (i : Int).toNat
  by_cases hlt : i < mxl a b
  · repeat ((conv => whnf) <;> first | refine wI (by omega) ?_ | refine wB (by omega) ?_ | refine wR (by omega) ?_ | refine wQ (by omega) ?_ | with_reducible refine And.intro rfl ?_ | with_reducible refine And.intro (by assumption) ?_ | with_reducible refine cTe (by assumption) ?_ | with_reducible refine cFe (by assumption) ?_ | with_reducible refine cTt ?_ | with_reducible refine cNt ?_ | refine And.intro (fun hh => by cases hh) ?_ | refine And.intro (by omega) ?_ | refine cTd (by omega) ?_ | refine cFd (by omega) ?_)
    refine ⟨⟨by omega, ha, by omega⟩, ?_⟩
    repeat ((conv => whnf) <;> first | refine wI (by omega) ?_ | refine wB (by omega) ?_ | refine wR (by omega) ?_ | refine wQ (by omega) ?_ | with_reducible refine And.intro rfl ?_ | with_reducible refine And.intro (by assumption) ?_ | with_reducible refine cTe (by assumption) ?_ | with_reducible refine cFe (by assumption) ?_ | with_reducible refine cTt ?_ | with_reducible refine cNt ?_ | refine And.intro (fun hh => by cases hh) ?_ | refine And.intro (by omega) ?_ | refine cTd (by omega) ?_ | refine cFd (by omega) ?_)
    refine ⟨⟨by omega, hb, by omega⟩, ?_⟩
    repeat ((conv => whnf) <;> first | refine wI (by omega) ?_ | refine wB (by omega) ?_ | refine wR (by omega) ?_ | refine wQ (by omega) ?_ | with_reducible refine And.intro rfl ?_ | with_reducible refine And.intro (by assumption) ?_ | with_reducible refine cTe (by assumption) ?_ | with_reducible refine cFe (by assumption) ?_ | with_reducible refine cTt ?_ | with_reducible refine cNt ?_ | refine And.intro (fun hh => by cases hh) ?_ | refine And.intro (by omega) ?_ | refine cTd (by omega) ?_ | refine cFd (by omega) ?_)
    refine And.intro (by simp only [AV.size, List.length_append, List.length_singleton]; omega) ?_
    repeat ((conv => whnf) <;> first | refine wI (by omega) ?_ | refine wB (by omega) ?_ | refine wR (by omega) ?_ | refine wQ (by omega) ?_ | with_reducible refine And.intro rfl ?_ | with_reducible refine And.intro (by assumption) ?_ | with_reducible refine cTe (by assumption) ?_ | with_reducible refine cFe (by assumption) ?_ | with_reducible refine cTt ?_ | with_reducible refine cNt ?_ | refine And.intro (fun hh => by cases hh) ?_ | refine And.intro (by omega) ?_ | refine cTd (by omega) ?_ | refine cFd (by omega) ?_)
    (conv => whnf)
    rw [e0]
    exact ⟨_, Subs.refl' _, i + 1, ⟨by omega, fun hh => absurd hh (by omega), zsR (by rw [addB_s]) (by simp [hln, AV.size]) (by rw [addB_s]) (by omega)⟩, by show mxl a b + 1 - (i + 1) < mxl a b + 1 - i; omega⟩
  · by_cases hov : 0 < (addB a b i).1
    · have hne : i = mxl a b := by
        by_cases e : i = mxl a b + 1
        · subst e; omega
        · omega
      repeat ((conv => whnf) <;> first | refine wI (by omega) ?_ | refine wB (by omega) ?_ | refine wR (by omega) ?_ | refine wQ (by omega) ?_ | with_reducible refine And.intro rfl ?_ | with_reducible refine And.intro (by assumption) ?_ | with_reducible refine cTe (by assumption) ?_ | with_reducible refine cFe (by assumption) ?_ | with_reducible refine cTt ?_ | with_reducible refine cNt ?_ | refine And.intro (fun hh => by cases hh) ?_ | refine And.intro (by omega) ?_ | refine cTd (by omega) ?_ | refine cFd (by omega) ?_)
      refine ⟨⟨by omega, ha, by omega⟩, ?_⟩
      repeat ((conv => whnf) <;> first | refine wI (by omega) ?_ | refine wB (by omega) ?_ | refine wR (by omega) ?_ | refine wQ (by omega) ?_ | with_reducible refine And.intro rfl ?_ | with_reducible refine And.intro (by assumption) ?_ | with_reducible refine cTe (by assumption) ?_ | with_reducible refine cFe (by assumption) ?_ | with_reducible refine cTt ?_ | with_reducible refine cNt ?_ | refine And.intro (fun hh => by cases hh) ?_ | refine And.intro (by omega) ?_ | refine cTd (by omega) ?_ | refine cFd (by omega) ?_)
      refine ⟨⟨by omega, hb, by omega⟩, ?_⟩
      repeat ((conv => whnf) <;> first | refine wI (by omega) ?_ | refine wB (by omega) ?_ | refine wR (by omega) ?_ | refine wQ (by omega) ?_ | with_reducible refine And.intro rfl ?_ | with_reducible refine And.intro (by assumption) ?_ | with_reducible refine cTe (by assumption) ?_ | with_reducible refine cFe (by assumption) ?_ | with_reducible refine cTt ?_ | with_reducible refine cNt ?_ | refine And.intro (fun hh => by cases hh) ?_ | refine And.intro (by omega) ?_ | refine cTd (by omega) ?_ | refine cFd (by omega) ?_)
      refine And.intro (by simp only [AV.size, List.length_append, List.length_singleton]; omega) ?_
      repeat ((conv => whnf) <;> first | refine wI (by omega) ?_ | refine wB (by omega) ?_ | refine wR (by omega) ?_ | refine wQ (by omega) ?_ | with_reducible refine And.intro rfl ?_ | with_reducible refine And.intro (by assumption) ?_ | with_reducible refine cTe (by assumption) ?_ | with_reducible refine cFe (by assumption) ?_ | with_reducible refine cTt ?_ | with_reducible refine cNt ?_ | refine And.intro (fun hh => by cases hh) ?_ | refine And.intro (by omega) ?_ | refine cTd (by omega) ?_ | refine cFd (by omega) ?_)
      (conv => whnf)
      rw [e0]
      exact ⟨_, Subs.refl' _, i + 1, ⟨by omega, fun hh => by rw [← hne]; exact hov, zsR (by rw [addB_s]) (by simp [hln, AV.size]) (by rw [addB_s]) (by omega)⟩, by show mxl a b + 1 - (i + 1) < mxl a b + 1 - i; omega⟩
    · have hf := hfin i hi hlt (by omega) hi2
      have hy := addB_by ha hb i
      rw [← hf] at h
      repeat ((conv => whnf) <;> first | refine wI (by omega) ?_ | refine wB (by omega) ?_ | refine wR (by omega) ?_ | refine wQ (by omega) ?_ | with_reducible refine And.intro rfl ?_ | with_reducible refine And.intro (by assumption) ?_ | with_reducible refine cTe (by assumption) ?_ | with_reducible refine cFe (by assumption) ?_ | with_reducible refine cTt ?_ | with_reducible refine cNt ?_ | refine And.intro (fun hh => by cases hh) ?_ | refine And.intro (by omega) ?_ | refine cTd (by omega) ?_ | refine cFd (by omega) ?_)
      refine ⟨⟨hy, by omega⟩, ?_⟩
      repeat ((conv => whnf) <;> first | refine wI (by omega) ?_ | refine wB (by omega) ?_ | refine wR (by omega) ?_ | refine wQ (by omega) ?_ | with_reducible refine And.intro rfl ?_ | with_reducible refine And.intro (by assumption) ?_ | with_reducible refine cTe (by assumption) ?_ | with_reducible refine cFe (by assumption) ?_ | with_reducible refine cTt ?_ | with_reducible refine cNt ?_ | refine And.intro (fun hh => by cases hh) ?_ | refine And.intro (by omega) ?_ | refine cTd (by omega) ?_ | refine cFd (by omega) ?_)
      (conv => whnf)
      exact h
theorem tb_radd3_ok : Con Try.prog tb_radd3.1 tb_radd3.2 := con_tree tabN_ok o_radd3 [.atom (.var 0), .atom (.var 1)] 2 Try.func14 rfl c_radd3 aw_radd3 g_radd3
def tNegI : Trans := fun zs Q => match zs with
  | [.ints .i64 l] => (l.length = 16 ∧ 0 ≤ l.getD 0 0) ∧ Q (.bool (dec (l.getD 0 0 % 2 = 1)))
  | _ => False
def o_rnegI : Orc := { ans := [(3, oV), (4, oV), (5, oV), (6, oB)], lps := [] }
def t_rnegI : Tree :=
 .new <|
 .calc (.binOp .rem 3 (.tmp 4) (.const (.int .i64 2)) 3) 3 [(4, .leaf (.atom (.cell 0 0)))] ([], []) (qv 1) 1 <|
 .calc2 (.binOp .eql 3 (.tmp 5) (.const (.int .i64 1)) 3) 4 [(5, qv 1)] ([], []) qT 0 (
 .ret ([], []) qT) qF 0 <|
 .ret ([], []) qF
theorem c_rnegI : compF Try.prog Try.f65 o_rnegI (Try.f65.body.getD .skip) (symIn [.agg [.whole 0 16]] Try.f65.ntmps 1) = some t_rnegI := by kernel_rfl
theorem g_rnegI : goodC Try.prog o_rnegI.ords (Try.f65.body.getD .skip) = true := by kernel_rfl
def tb_rnegI : FuncId × Trans := (65, tNegI)
set_option maxRecDepth 100000 in
theorem aw_rnegI : ∀ zs Q, tb_rnegI.2 zs Q → bindLs 0 [.agg [.whole 0 16]] zs fun ae => bif Nat.beq ae.length 1 then AWp Try.prog tabNil Q t_rnegI [] ae else False := by
  intro zs Q h
  replace h : tNegI zs Q := h
  unfold tNegI at h
  split at h
  case h_2 => exact h.elim
  rename_i l
  obtain ⟨⟨hl, h0⟩, h⟩ := h
  by_cases e : l.getD 0 0 % 2 = 1
  · rw [dec_true e] at h
    repeat ((conv => whnf) <;> first | refine wI (by omega) ?_ | refine wR (by omega) ?_ | with_reducible refine And.intro rfl ?_ | with_reducible refine And.intro (by assumption) ?_ | with_reducible refine cTe (by assumption) ?_ | with_reducible refine cFe (by assumption) ?_ | with_reducible refine cTt ?_ | with_reducible refine cNt ?_ | refine And.intro (fun hh => by cases hh) ?_ | refine And.intro (by omega) ?_ | refine cTd (by omega) ?_ | refine cFd (by omega) ?_)
    (conv => whnf)
    exact h
  · rw [dec_false e] at h
    repeat ((conv => whnf) <;> first | refine wI (by omega) ?_ | refine wR (by omega) ?_ | with_reducible refine And.intro rfl ?_ | with_reducible refine And.intro (by assumption) ?_ | with_reducible refine cTe (by assumption) ?_ | with_reducible refine cFe (by assumption) ?_ | with_reducible refine cTt ?_ | with_reducible refine cNt ?_ | refine And.intro (fun hh => by cases hh) ?_ | refine And.intro (by omega) ?_ | refine cTd (by omega) ?_ | refine cFd (by omega) ?_)
    (conv => whnf)
    exact h
theorem tb_rnegI_ok : Con Try.prog tb_rnegI.1 tb_rnegI.2 := con_tree tabNil_ok o_rnegI [.agg [.whole 0 16]] 1 Try.func65 rfl c_rnegI aw_rnegI g_rnegI
theorem fg_ints (x : F) : Sub (.fg x) (.ints .i64 (dgs x)) := by
  intro β v hv
  obtain rfl := fg_inv (a := .fg x) rfl hv
  exact valR0.mk (a := .ints .i64 (dgs x)) rfl rfl
theorem dgs_0 (x : F) : (dgs x).getD 0 0 = (x.val : Int) % 268435456 := rfl
def tNeg5 : Trans := fun zs Q => match zs with
  | [.fg x] => Q (.bool (dec (x.val % 2 = 1)))
  | _ => False
theorem dec_iff5 {p q : Prop} (h : p ↔ q) : dec p = dec q := by
  by_cases e : p
  · rw [dec_true e, dec_true (h.1 e)]
  · rw [dec_false e, dec_false (fun g => e (h.2 g))]
def tb_rneg5 : FuncId × Trans := (65, tNeg5)
theorem tb_rneg5_ok : Con Try.prog tb_rneg5.1 tb_rneg5.2 := fun w x vals zs Q hx hv hg => by
  replace hg : tNeg5 zs Q := hg
  unfold tNeg5 at hg
  split at hg
  case h_2 => exact hg.elim
  rename_i a
  have hd := dgs_0 a
  refine tb_rnegI_ok w x vals [.ints .i64 (dgs a)] Q hx (Subs.ok (show Subs [.fg a] [.ints .i64 (dgs a)] from ⟨fg_ints a, trivial⟩) hv) ⟨⟨dgs_len a, by omega⟩, ?_⟩
  rw [dec_iff5 (show (dgs a).getD 0 0 % 2 = 1 ↔ a.val % 2 = 1 by omega)]
  exact hg
end Go.Proofs.Ytpapfkihjhhjkaa
