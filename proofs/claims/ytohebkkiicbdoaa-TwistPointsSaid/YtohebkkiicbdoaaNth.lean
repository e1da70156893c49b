/- The document's numbers, by bytes -/
import Derived.Test.YtohebkkiicbdoaaJ13
set_option linter.unusedSimpArgs false
set_option linter.unusedVariables false
namespace Go.Proofs.Ytohebkkiicbdoaa
open Go.RowKit FdP FdP.Ch
def tAt : Trans := fun zs Q => match zs with
 | [.isl .u8 l, .int .i64 i] => (0 ≤ i ∧ By l ∧ l.length ≤ 1000000) ∧ Q (.int .i64 (l.getD i.toNat 0))
 | _ => False
def cutN (l : List Int) : Nat → Nat
 | 0 => 0
 | n + 1 => if l.getD n 0 = 0 then cutN l n else n + 1
def cutL (l : List Int) : List Int := l.take (cutN l l.length)
theorem cutN_s (l : List Int) (n : Nat) : cutN l (n + 1) = if l.getD n 0 = 0 then cutN l n else n + 1 := rfl
def tCut : Trans := fun zs Q => match zs with
 | [.isl .u8 l] => (By l ∧ l.length ≤ 1000000) ∧ Q (.isl .u8 (cutL l))
 | _ => False
def subB (a b : List Int) : Nat → Int × List Int
 | 0 => (0, [])
 | i + 1 => if a.getD i 0 - b.getD i 0 - (subB a b i).1 < 0 then (1, (subB a b i).2 ++ [a.getD i 0 - b.getD i 0 - (subB a b i).1 + 256]) else (0, (subB a b i).2 ++ [a.getD i 0 - b.getD i 0 - (subB a b i).1])
def subL (a b : List Int) : List Int := (subB a b a.length).2
def tSub3 : Trans := fun zs Q => match zs with
 | [.isl .u8 a, .isl .u8 b] => (By a ∧ By b ∧ a.length ≤ 100000 ∧ b.length ≤ 100000) ∧ Q (.isl .u8 (cutL (subL a b)))
 | _ => False
theorem subB_n {a b : List Int} {i : Nat} (h : a.getD i 0 - b.getD i 0 - (subB a b i).1 < 0) : subB a b (i + 1) = (1, (subB a b i).2 ++ [a.getD i 0 - b.getD i 0 - (subB a b i).1 + 256]) := by
 show (if _ then _ else _) = _
 rw [if_pos h]
theorem subB_p {a b : List Int} {i : Nat} (h : ¬ a.getD i 0 - b.getD i 0 - (subB a b i).1 < 0) : subB a b (i + 1) = (0, (subB a b i).2 ++ [a.getD i 0 - b.getD i 0 - (subB a b i).1]) := by
 show (if _ then _ else _) = _
 rw [if_neg h]
theorem subB_len (a b : List Int) : ∀ i, (subB a b i).2.length = i
 | 0 => rfl
 | i + 1 => by unfold subB; split <;> simp [subB_len a b i]
theorem subB_bor (a b : List Int) : ∀ i, (subB a b i).1 = 0 ∨ (subB a b i).1 = 1
 | 0 => .inl rfl
 | i + 1 => by unfold subB; split <;> simp
theorem subB_by {a b : List Int} (ha : By a) (hb : By b) : ∀ i, By (subB a b i).2
 | 0 => fun x hx => by cases hx
 | i + 1 => fun x hx => by
  have ih := subB_by ha hb i
  have h1 := by_getD' ha i
  have h2 := by_getD' hb i
  have h3 := subB_bor a b i
  unfold subB at hx
  split at hx
  ·rcases List.mem_append.1 hx with hx | hx
   ·exact ih x hx
   ·simp only [List.mem_singleton] at hx; omega
  ·rcases List.mem_append.1 hx with hx | hx
   ·exact ih x hx
   ·simp only [List.mem_singleton] at hx; omega
theorem zsR {a a' i i' : Int} {n n' : Nat} {l l' : List Int} (h : a = a') (hn : n = n') (hl : l = l') (hi : i = i') : [AV.int .i64 a, .row n, .ints .u8 l, .int .i64 i] = [.int .i64 a', .row n', .ints .u8 l', .int .i64 i'] := by rw [h, hn, hl, hi]
def tabNil : Tab := []
theorem tabNil_ok : tabNil.OK Try.prog := tab_nil _
def o_rat_ : Orc := { ans := [(7, oV), (8, oB), (11, oV), (12, oV), (13, oV)], lps := [] }
def t_rat_ : Tree :=
 .calc (.call { callee := .builtin .len, args := #[.tmp 6], argTypes := #[22] }) 3 [(6, qv 0)] ([], []) (qv 2) 1 <|
 .calc2 (.binOp .geq 3 (.tmp 5) (.tmp 7) 3) 4 [(5, qv 1), (7, qv 2)] ([], []) qT 0 (
 .ret ([], []) (.leaf (.atom (.const (.int .i64 0))))) qF 0 <|
 .calc (.indexAddr 22 (.tmp 9) (.tmp 10)) 0 [(9, qv 0), (10, qv 1)] ([], []) (qv 3) 1 <|
 .calc (.load 5 (.tmp 11)) 5 [(11, qv 3)] ([], []) (qv 4) 1 <|
 .calc (.convert 5 3 (.tmp 12)) 3 [(12, qv 4)] ([], []) (qv 5) 1 <|
 .ret ([], []) (qv 5)
theorem c_rat_ : compF Try.prog Try.f97 o_rat_ (Try.f97.body.getD .skip) (symIn [.atom (.var 0), .atom (.var 1)] Try.f97.ntmps 2) = some t_rat_ := by kernel_rfl
theorem g_rat_ : goodC Try.prog o_rat_.ords (Try.f97.body.getD .skip) = true := by kernel_rfl
def tb_rat_ : FuncId × Trans := (97, tAt)
set_option maxRecDepth 100000 in
theorem aw_rat_ : ∀ zs Q, tb_rat_.2 zs Q → bindLs 0 [.atom (.var 0), .atom (.var 1)] zs fun ae => bif Nat.beq ae.length 2 then AWp Try.prog tabNil Q t_rat_ [] ae else False := by
 intro zs Q h
 replace h : tAt zs Q := h
 unfold tAt at h
 split at h
 case h_2 => exact h.elim
 rename_i l i
 obtain ⟨⟨h0, hb, hl⟩, h⟩ := h
 have hby := by_getD' hb i.toNat
 by_cases hi : i < (l.length : Int)
 ·repeat ((conv => whnf) <;> first | refine wI (by omega) ?_ | refine wB (by omega) ?_ | with_reducible refine And.intro rfl ?_ | with_reducible refine And.intro (by assumption) ?_ | refine And.intro (fun hh => by cases hh) ?_ | refine And.intro (by omega) ?_ | refine cTd (by omega) ?_ | refine cFd (by omega) ?_)
  (conv => whnf)
  exact h
 ·have e : l.getD i.toNat 0 = 0 := by simp [List.getD, List.getElem?_eq_none (show l.length ≤ i.toNat by omega)]
  rw [e] at h
  repeat ((conv => whnf) <;> first | refine wI (by omega) ?_ | refine wB (by omega) ?_ | with_reducible refine And.intro rfl ?_ | with_reducible refine And.intro (by assumption) ?_ | refine And.intro (fun hh => by cases hh) ?_ | refine And.intro (by omega) ?_ | refine cTd (by omega) ?_ | refine cFd (by omega) ?_)
  (conv => whnf)
  exact h
theorem tb_rat__ok : Con Try.prog tb_rat_.1 tb_rat_.2 := con_tree tabNil_ok o_rat_ [.atom (.var 0), .atom (.var 1)] 2 Try.func97 rfl c_rat_ aw_rat_ g_rat_
def o_rcut : Orc := { ans := [(5, oV), (7, oB), (11, oV), (12, oV), (13, oV), (14, oB), (15, oV), (17, oV), (20, oV)], lps := [(0, [.slot 3 [.one]])] }
def t_rcut : Tree :=
 .calc (.call { callee := .builtin .len, args := #[.tmp 4], argTypes := #[22] }) 3 [(4, qv 0)] ([], []) (qv 1) 1 <|
 .loop [.atom (.var 1)] [.one] <|
 .calc2 (.binOp .gtr 3 (.tmp 6) (.const (.int .i64 0)) 3) 4 [(6, qv 2)] ([], []) qT 0 (
 .calc (.binOp .sub 3 (.tmp 10) (.const (.int .i64 1)) 3) 3 [(10, qv 2)] ([], []) (qv 3) 1 <|
 .calc (.indexAddr 22 (.tmp 9) (.tmp 11)) 0 [(9, qv 0), (11, qv 3)] ([], []) (qv 4) 1 <|
 .calc (.load 5 (.tmp 12)) 5 [(12, qv 4)] ([], []) (qv 5) 1 <|
 .calc2 (.binOp .eql 5 (.tmp 13) (.const (.int .u8 0)) 5) 4 [(13, qv 5)] ([], []) qT 0 (
 .calc (.binOp .sub 3 (.tmp 16) (.const (.int .i64 1)) 3) 3 [(16, qv 2)] ([], []) (qv 6) 1 <|
 .again 0 [.atom (.var 6)]) qF 0 <|
 .calc (.slice 22 (.tmp 18) none (some (.tmp 19)) none) 22 [(18, qv 0), (19, qv 2)] ([], []) (qv 6) 1 <|
 .ret ([], []) (qv 6)) qF 0 <|
 .calc (.slice 22 (.tmp 18) none (some (.tmp 19)) none) 22 [(18, qv 0), (19, qv 2)] ([], []) (qv 3) 1 <|
 .ret ([], []) (qv 3)
theorem c_rcut : compF Try.prog Try.f110 o_rcut (Try.f110.body.getD .skip) (symIn [.atom (.var 0)] Try.f110.ntmps 1) = some t_rcut := by kernel_rfl
theorem g_rcut : goodC Try.prog o_rcut.ords (Try.f110.body.getD .skip) = true := by kernel_rfl
def tb_rcut : FuncId × Trans := (110, tCut)
set_option maxRecDepth 100000 in
theorem aw_rcut : ∀ zs Q, tb_rcut.2 zs Q → bindLs 0 [.atom (.var 0)] zs fun ae => bif Nat.beq ae.length 1 then AWp Try.prog tabNil Q t_rcut [] ae else False := by
 intro zs Q h
 replace h : tCut zs Q := h
 unfold tCut at h
 split at h
 case h_2 => exact h.elim
 rename_i l
 obtain ⟨⟨hb, hl⟩, h⟩ := h
 repeat ((conv => whnf) <;> first | refine wI (by omega) ?_ | refine wB (by omega) ?_ | with_reducible refine And.intro rfl ?_ | with_reducible refine And.intro (by assumption) ?_ | refine And.intro (fun hh => by cases hh) ?_ | refine And.intro (by omega) ?_ | refine cTd (by omega) ?_ | refine cFd (by omega) ?_)
 (conv => whnf)
 refine ⟨Nat, fun n zs => n ≤ l.length ∧ cutN l n = cutN l l.length ∧ zs = [.int .i64 (n : Int)], fun n => n, l.length, ?_, ?_⟩
 ·(conv => whnf)
  exact ⟨_, Subs.refl' _, Nat.le_refl _, rfl, rfl⟩
 rintro n _ ⟨hn, hc, rfl⟩
 have fin : cutN l l.length = n → Q (.isl .u8 ((l.drop (0 : Int).toNat).take ((n : Int) - 0).toNat)) := fun e => by
  have e2 : ((n : Int) - 0).toNat = n := by omega
  rw [e2]
  unfold cutL at h
  rw [e] at h
  exact h
 cases n with
 | zero =>
  repeat ((conv => whnf) <;> first | refine wI (by omega) ?_ | refine wB (by omega) ?_ | with_reducible refine And.intro rfl ?_ | with_reducible refine And.intro (by assumption) ?_ | refine And.intro (fun hh => by cases hh) ?_ | refine And.intro (by omega) ?_ | refine cTd (by omega) ?_ | refine cFd (by omega) ?_)
  (conv => whnf)
  exact fin hc.symm
 | succ m =>
  have hby := by_getD' hb (((m + 1 : Nat) : Int) - 1).toNat
  have em : (((m + 1 : Nat) : Int) - 1).toNat = m := by omega
  by_cases hz : l.getD (((m + 1 : Nat) : Int) - 1).toNat 0 = 0
  ·repeat ((conv => whnf) <;> first | refine wI (by omega) ?_ | refine wB (by omega) ?_ | with_reducible refine And.intro rfl ?_ | with_reducible refine And.intro (by assumption) ?_ | refine And.intro (fun hh => by cases hh) ?_ | refine And.intro (by omega) ?_ | refine cTd (by omega) ?_ | refine cFd (by omega) ?_)
   (conv => whnf)
   rw [em] at hz
   rw [cutN_s, if_pos hz] at hc
   exact ⟨_, Subs.refl' _, m, ⟨by omega, hc, by rw [show (((m + 1 : Nat) : Int) - 1) = (m : Int) by omega]⟩, Nat.lt_succ_self m⟩
  ·rw [em] at hz
   have hc' := hc
   rw [cutN_s, if_neg hz] at hc'
   rw [← em] at hz
   repeat ((conv => whnf) <;> first | refine wI (by omega) ?_ | refine wB (by omega) ?_ | with_reducible refine And.intro rfl ?_ | with_reducible refine And.intro (by assumption) ?_ | refine And.intro (fun hh => by cases hh) ?_ | refine And.intro (by omega) ?_ | refine cTd (by omega) ?_ | refine cFd (by omega) ?_)
   (conv => whnf)
   exact fin hc'.symm
theorem tb_rcut_ok : Con Try.prog tb_rcut.1 tb_rcut.2 := con_tree tabNil_ok o_rcut [.atom (.var 0)] 1 Try.func110 rfl c_rcut aw_rcut g_rcut
def tabN : Tab := tb_rat_ :: tb_rcut :: []
theorem tabN_ok : tabN.OK Try.prog := tab_cons tb_rat__ok <| tab_cons tb_rcut_ok <| tab_nil _
def o_rsub3 : Orc := { ans := [(11, oV), (12, oB), (17, oV), (20, oV), (21, oV), (23, oV), (25, oB), (27, oV), (30, oV), (32, oV), (14, oV), (34, oV)], lps := [(0, [.slot 6 [.one], .row 5 5 1, .slot 7 [.one]])] }
def t_rsub3 : Tree :=
 .loop [.atom (.const (.int .i64 0)), .atom (.const (.slice none 0 0)), .agg [], .atom (.const (.int .i64 0))] [.one, .one, .row, .one] <|
 .calc (.call { callee := .builtin .len, args := #[.tmp 10], argTypes := #[22] }) 3 [(10, qv 0)] ([], []) (qv 6) 1 <|
 .calc2 (.binOp .lss 3 (.tmp 9) (.tmp 11) 3) 4 [(9, qv 5), (11, qv 6)] ([], []) qT 0 (
 .call 97 [.atom (.var 0), .atom (.var 5)] ([], []) (qv 7) 1 [] <|
 .call 97 [.atom (.var 1), .atom (.var 5)] ([], []) (qv 8) 1 [] <|
 .calc (.binOp .sub 3 (.tmp 17) (.tmp 20) 3) 3 [(17, qv 7), (20, qv 8)] ([], []) (qv 9) 1 <|
 .calc (.binOp .sub 3 (.tmp 21) (.tmp 22) 3) 3 [(21, qv 9), (22, qv 2)] ([], []) (qv 10) 1 <|
 .calc2 (.binOp .lss 3 (.tmp 24) (.const (.int .i64 0)) 3) 4 [(24, qv 10)] ([], []) qT 0 (
 .calc (.binOp .add 3 (.tmp 26) (.const (.int .i64 256)) 3) 3 [(26, qv 10)] ([], []) (qv 11) 1 <|
 .calc (.convert 3 5 (.tmp 29)) 5 [(29, qv 11)] ([], []) (qv 12) 1 <|
 .new <|
 .app (some 4) [.one (.var 12)] 1 <|
 .calc (.binOp .add 3 (.tmp 13) (.const (.int .i64 1)) 3) 3 [(13, qv 5)] ([], []) (qv 15) 1 <|
 .again 0 [.atom (.const (.int .i64 1)), .atom (.var 13), .agg [.rest 14], .atom (.var 15)]) qF 0 <|
 .calc (.convert 3 5 (.tmp 29)) 5 [(29, qv 10)] ([], []) (qv 11) 1 <|
 .new <|
 .app (some 4) [.one (.var 11)] 1 <|
 .calc (.binOp .add 3 (.tmp 13) (.const (.int .i64 1)) 3) 3 [(13, qv 5)] ([], []) (qv 14) 1 <|
 .again 0 [.atom (.const (.int .i64 0)), .atom (.var 12), .agg [.rest 13], .atom (.var 14)]) qF 0 <|
 .frz 3 4 ([], [⟨3, 4, 5, 1⟩]) <|
 .call 110 [.atom (.var 3)] ([], []) (qv 7) 1 [] <|
 .ret ([], []) (qv 7)
theorem c_rsub3 : compF Try.prog Try.f103 o_rsub3 (Try.f103.body.getD .skip) (symIn [.atom (.var 0), .atom (.var 1)] Try.f103.ntmps 2) = some t_rsub3 := by kernel_rfl
theorem g_rsub3 : goodC Try.prog o_rsub3.ords (Try.f103.body.getD .skip) = true := by kernel_rfl
def tb_rsub3 : FuncId × Trans := (103, tSub3)
set_option maxRecDepth 100000 in
theorem aw_rsub3 : ∀ zs Q, tb_rsub3.2 zs Q → bindLs 0 [.atom (.var 0), .atom (.var 1)] zs fun ae => bif Nat.beq ae.length 2 then AWp Try.prog tabN Q t_rsub3 [] ae else False := by
 intro zs Q h
 replace h : tSub3 zs Q := h
 unfold tSub3 at h
 split at h
 case h_2 => exact h.elim
 rename_i a b
 obtain ⟨⟨ha, hb, la, lb⟩, h⟩ := h
 (conv => whnf)
 refine ⟨Nat, fun i zs => i ≤ a.length ∧ zs = [.int .i64 (subB a b i).1, .row i, .ints .u8 (subB a b i).2, .int .i64 (i : Int)], fun i => a.length - i, 0, ?_, ?_⟩
 ·(conv => whnf)
  exact ⟨[.int .i64 0, .row 0, .ints .u8 [], .int .i64 0], ⟨Sub.refl' _, sub_row0, sub_agg0 _, Sub.refl' _, trivial⟩, Nat.zero_le _, rfl⟩
 rintro i _ ⟨hi, rfl⟩
 have hln := subB_len a b i
 have hbo := subB_bor a b i
 by_cases hlt : i < a.length
 ·have e0 : ((i : Int)).toNat = i := by omega
  have h1 := by_getD' ha (i : Int).toNat
  have h2 := by_getD' hb (i : Int).toNat
  by_cases hneg : a.getD (i : Int).toNat 0 - b.getD (i : Int).toNat 0 - (subB a b i).1 < 0
  ·repeat ((conv => whnf) <;> first | refine wI (by omega) ?_ | refine wB (by omega) ?_ | with_reducible refine And.intro rfl ?_ | with_reducible refine And.intro (by assumption) ?_ | refine And.intro (fun hh => by cases hh) ?_ | refine And.intro (by omega) ?_ | refine cTd (by omega) ?_ | refine cFd (by omega) ?_)
   refine ⟨⟨by omega, ha, by omega⟩, ?_⟩
   repeat ((conv => whnf) <;> first | refine wI (by omega) ?_ | refine wB (by omega) ?_ | with_reducible refine And.intro rfl ?_ | with_reducible refine And.intro (by assumption) ?_ | refine And.intro (fun hh => by cases hh) ?_ | refine And.intro (by omega) ?_ | refine cTd (by omega) ?_ | refine cFd (by omega) ?_)
   refine ⟨⟨by omega, hb, by omega⟩, ?_⟩
   repeat ((conv => whnf) <;> first | refine wI (by omega) ?_ | refine wB (by omega) ?_ | with_reducible refine And.intro rfl ?_ | with_reducible refine And.intro (by assumption) ?_ | refine And.intro (fun hh => by cases hh) ?_ | refine And.intro (by omega) ?_ | refine cTd (by omega) ?_ | refine cFd (by omega) ?_)
   refine And.intro (by simp only [AV.size, List.length_append, List.length_singleton]; omega) ?_
   repeat ((conv => whnf) <;> first | refine wI (by omega) ?_ | refine wB (by omega) ?_ | with_reducible refine And.intro rfl ?_ | with_reducible refine And.intro (by assumption) ?_ | refine And.intro (fun hh => by cases hh) ?_ | refine And.intro (by omega) ?_ | refine cTd (by omega) ?_ | refine cFd (by omega) ?_)
   (conv => whnf)
   rw [e0] at hneg ⊢
   exact ⟨_, Subs.refl' _, i + 1, ⟨by omega, zsR (by rw [subB_n hneg]) (by simp [hln, AV.size]) (by rw [subB_n hneg]) (by omega)⟩, by show a.length - (i + 1) < a.length - i; omega⟩
  ·repeat ((conv => whnf) <;> first | refine wI (by omega) ?_ | refine wB (by omega) ?_ | with_reducible refine And.intro rfl ?_ | with_reducible refine And.intro (by assumption) ?_ | refine And.intro (fun hh => by cases hh) ?_ | refine And.intro (by omega) ?_ | refine cTd (by omega) ?_ | refine cFd (by omega) ?_)
   refine ⟨⟨by omega, ha, by omega⟩, ?_⟩
   repeat ((conv => whnf) <;> first | refine wI (by omega) ?_ | refine wB (by omega) ?_ | with_reducible refine And.intro rfl ?_ | with_reducible refine And.intro (by assumption) ?_ | refine And.intro (fun hh => by cases hh) ?_ | refine And.intro (by omega) ?_ | refine cTd (by omega) ?_ | refine cFd (by omega) ?_)
   refine ⟨⟨by omega, hb, by omega⟩, ?_⟩
   repeat ((conv => whnf) <;> first | refine wI (by omega) ?_ | refine wB (by omega) ?_ | with_reducible refine And.intro rfl ?_ | with_reducible refine And.intro (by assumption) ?_ | refine And.intro (fun hh => by cases hh) ?_ | refine And.intro (by omega) ?_ | refine cTd (by omega) ?_ | refine cFd (by omega) ?_)
   refine And.intro (by simp only [AV.size, List.length_append, List.length_singleton]; omega) ?_
   repeat ((conv => whnf) <;> first | refine wI (by omega) ?_ | refine wB (by omega) ?_ | with_reducible refine And.intro rfl ?_ | with_reducible refine And.intro (by assumption) ?_ | refine And.intro (fun hh => by cases hh) ?_ | refine And.intro (by omega) ?_ | refine cTd (by omega) ?_ | refine cFd (by omega) ?_)
   (conv => whnf)
   rw [e0] at hneg ⊢
   exact ⟨_, Subs.refl' _, i + 1, ⟨by omega, zsR (by rw [subB_p hneg]) (by simp [hln, AV.size]) (by rw [subB_p hneg]) (by omega)⟩, by show a.length - (i + 1) < a.length - i; omega⟩
 ·obtain rfl : i = a.length := by omega
  repeat ((conv => whnf) <;> first | refine wI (by omega) ?_ | refine wB (by omega) ?_ | with_reducible refine And.intro rfl ?_ | with_reducible refine And.intro (by assumption) ?_ | refine And.intro (fun hh => by cases hh) ?_ | refine And.intro (by omega) ?_ | refine cTd (by omega) ?_ | refine cFd (by omega) ?_)
  refine ⟨⟨subB_by ha hb _, by omega⟩, ?_⟩
  repeat ((conv => whnf) <;> first | refine wI (by omega) ?_ | refine wB (by omega) ?_ | with_reducible refine And.intro rfl ?_ | with_reducible refine And.intro (by assumption) ?_ | refine And.intro (fun hh => by cases hh) ?_ | refine And.intro (by omega) ?_ | refine cTd (by omega) ?_ | refine cFd (by omega) ?_)
  (conv => whnf)
  exact h
theorem tb_rsub3_ok : Con Try.prog tb_rsub3.1 tb_rsub3.2 := con_tree tabN_ok o_rsub3 [.atom (.var 0), .atom (.var 1)] 2 Try.func103 rfl c_rsub3 aw_rsub3 g_rsub3
end Go.Proofs.Ytohebkkiicbdoaa
