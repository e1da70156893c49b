/- Chapter 8: the base, spots -/
import Derived.Test.YtohebkkiicbdoaaPnt
import Derived.Test.YtohebkkiicbdoaaJ13
set_option linter.unusedSimpArgs false
set_option linter.unusedVariables false
namespace Go.Proofs.Ytohebkkiicbdoaa
open Go.RowKit FdP FdP.Ch
def hexN (x : Int) : Int := if 97 ≤ x then x - 97 + 10 else x - 48
def HexOK (c : List Int) : Prop := ∀ i : Nat, i < 112 → (48 ≤ c.getD i 0 ∧ c.getD i 0 ≤ 57) ∨ (97 ≤ c.getD i 0 ∧ c.getD i 0 ≤ 102)
instance (c : List Int) : Decidable (HexOK c) := by unfold HexOK; infer_instance
def codeL (c : List Int) : Nat → List Int
 | 0 => List.replicate 56 0
 | i + 1 => (codeL c i).set (i / 2) (if i % 2 = 0 then hexN (c.getD (111 - i) 0) else bits .or .u8 ((codeL c i).getD (i / 2) 0) (hexN (c.getD (111 - i) 0) * 16))
theorem codeL_len (c : List Int) : ∀ i, (codeL c i).length = 56
 | 0 => rfl
 | i + 1 => by simp only [codeL, List.length_set]; exact codeL_len c i
def tElem : Trans := fun zs Q => match zs with
 | [a] => (match a.str? with
  | some s => ((strB s).length = 112 ∧ HexOK (strB s) ∧ By (codeL (strB s) 112)) ∧ Q (.el (z (bval (codeL (strB s) 112))))
  | none => False)
 | _ => False
theorem code_even {c : List Int} {i j : Nat} {x : Int} (h : i % 2 = 0) (hx : x = hexN (c.getD (111 - i) 0)) (hj : j = i / 2) : (codeL c i).set j x = codeL c (i + 1) := by
 subst hx hj; simp only [codeL, if_pos h]
theorem code_odd {c : List Int} {i j : Nat} {x y : Int} (h : ¬ i % 2 = 0) (hx : x = hexN (c.getD (111 - i) 0)) (hj : j = i / 2) (hy : y = bits .or .u8 ((codeL c i).getD j 0) (x * 16)) : (codeL c i).set j y = codeL c (i + 1) := by
 subst hx hj hy; simp only [codeL, if_neg h]

def tbl8e : Tab := tb_fof :: tbl8
theorem tbl8e_ok : tbl8e.OK Try.prog := tab_cons tb_fof_ok <| tbl8_ok
def o_elem : Orc := { ans := [(10, oV), (12, oB), (16, oV), (17, oV), (19, oV), (20, oV), (22, oV), (24, oB), (26, oV), (27, oV), (29, oV), (30, oB), (32, oV), (34, oV), (36, oV), (37, oV), (38, oV), (40, oV), (41, oV), (42, oV), (43, oV), (45, oV), (46, .one ⟨.tup [.agg [.whole 0 8], .atom (.var 1)], 2, []⟩), (49, oA 8)], lps := [(0, [.slot 11 [.one], .blk 1 [.agg 56]])] }
def t_elem : Tree :=
 .new <|
 .new <|
 .calc (.call { callee := .builtin .len, args := #[.tmp 9], argTypes := #[9] }) 3 [(9, qv 0)] ([], []) (qv 1) 1 <|
 .loop [.atom (.const (.int .i64 0)), .agg [.lit [.int .u8 0, .int .u8 0, .int .u8 0, .int .u8 0, .int .u8 0, .int .u8 0, .int .u8 0, .int .u8 0, .int .u8 0, .int .u8 0, .int .u8 0, .int .u8 0, .int .u8 0, .int .u8 0, .int .u8 0, .int .u8 0, .int .u8 0, .int .u8 0, .int .u8 0, .int .u8 0, .int .u8 0, .int .u8 0, .int .u8 0, .int .u8 0, .int .u8 0, .int .u8 0, .int .u8 0, .int .u8 0, .int .u8 0, .int .u8 0, .int .u8 0, .int .u8 0, .int .u8 0, .int .u8 0, .int .u8 0, .int .u8 0, .int .u8 0, .int .u8 0, .int .u8 0, .int .u8 0, .int .u8 0, .int .u8 0, .int .u8 0, .int .u8 0, .int .u8 0, .int .u8 0, .int .u8 0, .int .u8 0, .int .u8 0, .int .u8 0, .int .u8 0, .int .u8 0, .int .u8 0, .int .u8 0, .int .u8 0, .int .u8 0]]] [.one, .agg 56] <|
 .calc2 (.binOp .lss 3 (.tmp 11) (.tmp 10) 3) 4 [(11, qv 2), (10, qv 1)] ([], []) qT 0 (
 .calc (.call { callee := .builtin .len, args := #[.tmp 15], argTypes := #[9] }) 3 [(15, qv 0)] ([], []) (qv 4) 1 <|
 .calc (.binOp .sub 3 (.tmp 16) (.const (.int .i64 1)) 3) 3 [(16, qv 4)] ([], []) (qv 5) 1 <|
 .calc (.binOp .sub 3 (.tmp 17) (.tmp 18) 3) 3 [(17, qv 5), (18, qv 2)] ([], []) (qv 6) 1 <|
 .calc (.index 9 (.tmp 14) (.tmp 19)) 5 [(14, qv 0), (19, qv 6)] ([], []) (qv 7) 1 <|
 .calc (.binOp .sub 5 (.tmp 21) (.const (.int .u8 48)) 5) 5 [(21, qv 7)] ([], []) (qv 8) 1 <|
 .calc2 (.binOp .geq 5 (.tmp 23) (.const (.int .u8 97)) 5) 4 [(23, qv 7)] ([], []) qT 0 (
 .calc (.binOp .sub 5 (.tmp 25) (.const (.int .u8 97)) 5) 5 [(25, qv 7)] ([], []) (qv 9) 1 <|
 .calc (.binOp .add 5 (.tmp 26) (.const (.int .u8 10)) 5) 5 [(26, qv 9)] ([], []) (qv 10) 1 <|
 .calc (.binOp .rem 3 (.tmp 28) (.const (.int .i64 2)) 3) 3 [(28, qv 2)] ([], []) (qv 11) 1 <|
 .calc2 (.binOp .eql 3 (.tmp 29) (.const (.int .i64 0)) 3) 4 [(29, qv 11)] ([], []) qT 0 (
 .calc (.binOp .quo 3 (.tmp 31) (.const (.int .i64 2)) 3) 3 [(31, qv 2)] ([], []) (qv 12) 1 <|
 .bound 12 56 <|
 .sti [.whole 3 56] 0 12 1 1 [.one (.var 10)] <|
 .calc (.binOp .add 3 (.tmp 11) (.const (.int .i64 1)) 3) 3 [(11, qv 2)] ([], []) (qv 14) 1 <|
 .again 0 [.atom (.var 14), .agg [.whole 13 56]]) qF 0 <|
 .calc (.binOp .quo 3 (.tmp 35) (.const (.int .i64 2)) 3) 3 [(35, qv 2)] ([], []) (qv 12) 1 <|
 .bound 12 56 <|
 .ldi [.whole 3 56] 0 12 1 1 false <|
 .calc (.binOp .mul 5 (.tmp 39) (.const (.int .u8 16)) 5) 5 [(39, qv 10)] ([], []) (qv 14) 1 <|
 .calc (.binOp .or 5 (.tmp 38) (.tmp 40) 5) 5 [(38, qv 13), (40, qv 14)] ([], []) (qv 15) 1 <|
 .bound 12 56 <|
 .sti [.whole 3 56] 0 12 1 1 [.one (.var 15)] <|
 .calc (.binOp .add 3 (.tmp 11) (.const (.int .i64 1)) 3) 3 [(11, qv 2)] ([], []) (qv 17) 1 <|
 .again 0 [.atom (.var 17), .agg [.whole 16 56]]) qF 0 <|
 .calc (.binOp .rem 3 (.tmp 28) (.const (.int .i64 2)) 3) 3 [(28, qv 2)] ([], []) (qv 9) 1 <|
 .calc2 (.binOp .eql 3 (.tmp 29) (.const (.int .i64 0)) 3) 4 [(29, qv 9)] ([], []) qT 0 (
 .calc (.binOp .quo 3 (.tmp 31) (.const (.int .i64 2)) 3) 3 [(31, qv 2)] ([], []) (qv 10) 1 <|
 .bound 10 56 <|
 .sti [.whole 3 56] 0 10 1 1 [.one (.var 8)] <|
 .calc (.binOp .add 3 (.tmp 11) (.const (.int .i64 1)) 3) 3 [(11, qv 2)] ([], []) (qv 12) 1 <|
 .again 0 [.atom (.var 12), .agg [.whole 11 56]]) qF 0 <|
 .calc (.binOp .quo 3 (.tmp 35) (.const (.int .i64 2)) 3) 3 [(35, qv 2)] ([], []) (qv 10) 1 <|
 .bound 10 56 <|
 .ldi [.whole 3 56] 0 10 1 1 false <|
 .calc (.binOp .mul 5 (.tmp 39) (.const (.int .u8 16)) 5) 5 [(39, qv 8)] ([], []) (qv 12) 1 <|
 .calc (.binOp .or 5 (.tmp 38) (.tmp 40) 5) 5 [(38, qv 11), (40, qv 12)] ([], []) (qv 13) 1 <|
 .bound 10 56 <|
 .sti [.whole 3 56] 0 10 1 1 [.one (.var 13)] <|
 .calc (.binOp .add 3 (.tmp 11) (.const (.int .i64 1)) 3) 3 [(11, qv 2)] ([], []) (qv 15) 1 <|
 .again 0 [.atom (.var 15), .agg [.whole 14 56]]) qF 0 <|
 .call 35 [.atom (.slc 1 0 56 56)] ([([.lit [.int .u64 0, .int .u64 0, .int .u64 0, .int .u64 0, .int .u64 0, .int .u64 0, .int .u64 0, .int .u64 0]], 29), ([.whole 3 56], 129)], []) (.tup [.agg [.whole 4 8], .atom (.var 5)]) 2 [] <|
 .new <|
 .ret ([], []) (.leaf (.agg [.whole 4 8]))
theorem c_elem : compF Try.prog Try.f73 o_elem (Try.f73.body.getD .skip) (symIn [.atom (.var 0)] Try.f73.ntmps 1) = some t_elem := by kernel_rfl
theorem g_elem : goodC Try.prog o_elem.ords (Try.f73.body.getD .skip) = true := by kernel_rfl
def tb_elem : FuncId × Trans := (73, tElem)
set_option maxRecDepth 100000 in
theorem aw_elem : ∀ zs Q, tb_elem.2 zs Q → bindLs 0 [.atom (.var 0)] zs fun ae => bif Nat.beq ae.length 1 then AWp Try.prog tbl8e Q t_elem [] ae else False := by
 intro zs Q h
 replace h : tElem zs Q := h
 unfold tElem at h
 split at h
 case h_2 => exact h.elim
 split at h
 case h_2 => exact h.elim
 rename_i s hs
 obtain ⟨⟨hl, hx, hb⟩, h⟩ := h
 unfold AV.str? at hs
 split at hs
 case h_2 => cases hs
 cases hs
 have h56 : ∀ i, ((codeL (strB s) i).length : Int) = 56 := fun i => by rw [codeL_len]; rfl
 (conv => whnf)
 refine ⟨Nat, fun i zs => i ≤ 112 ∧ zs = [.int .i64 (i : Int), .ints .u8 (codeL (strB s) i)], fun i => 112 - i, 0, ?_, ?_⟩
 ·(conv => whnf)
  exact ⟨[.int .i64 0, .ints .u8 (List.replicate 56 0)], ⟨Sub.refl' _, sub_lit rfl, trivial⟩, by omega, rfl⟩
 rintro i _ ⟨hi, rfl⟩
 (conv => whnf)
 have hc := codeL_len (strB s) i
 by_cases hlt : i < 112
 ·have hd := hx (((strB s).length : Int) - 1 - i).toNat (by omega)
  have e1 : (((strB s).length : Int) - 1 - i).toNat = 111 - i := by omega
  have hn : ∀ x : Int, 97 ≤ x → x - 97 + 10 = hexN x := fun x hx => by unfold hexN; rw [if_pos hx]
  have hm : ∀ x : Int, ¬ 97 ≤ x → x - 48 = hexN x := fun x hx => by unfold hexN; rw [if_neg hx]
  by_cases h97 : 97 ≤ (strB s).getD (((strB s).length : Int) - 1 - i).toNat 0
  ·by_cases hev : i % 2 = 0
   ·repeat ((conv => whnf) <;> first | refine wI (by omega) ?_ | refine wB (by omega) ?_ | refine wR (by omega) ?_ | refine wQ (by omega) ?_ | refine And.intro rfl ?_ | refine And.intro (by omega) ?_ | refine cTd (by omega) ?_ | refine cFd (by omega) ?_)
    (conv => whnf)
    exact ⟨_, Subs.refl' _, i + 1, ⟨by omega, zs2 (by omega) (ints_eq (code_even hev (by rw [hn _ h97, e1]) (by omega)))⟩, by show 112 - (i + 1) < 112 - i; omega⟩
   ·repeat ((conv => whnf) <;> first | refine wI (by omega) ?_ | refine wB (by omega) ?_ | refine wR (by omega) ?_ | refine wQ (by omega) ?_ | refine And.intro rfl ?_ | refine And.intro (by omega) ?_ | refine cTd (by omega) ?_ | refine cFd (by omega) ?_)
    (conv => whnf)
    exact ⟨_, Subs.refl' _, i + 1, ⟨by omega, zs2 (by omega) (ints_eq (code_odd hev (by rw [hn _ h97, e1]) (by omega) rfl))⟩, by show 112 - (i + 1) < 112 - i; omega⟩
  ·by_cases hev : i % 2 = 0
   ·repeat ((conv => whnf) <;> first | refine wI (by omega) ?_ | refine wB (by omega) ?_ | refine wR (by omega) ?_ | refine wQ (by omega) ?_ | refine And.intro rfl ?_ | refine And.intro (by omega) ?_ | refine cTd (by omega) ?_ | refine cFd (by omega) ?_)
    (conv => whnf)
    exact ⟨_, Subs.refl' _, i + 1, ⟨by omega, zs2 (by omega) (ints_eq (code_even hev (by rw [hm _ h97, e1]) (by omega)))⟩, by show 112 - (i + 1) < 112 - i; omega⟩
   ·repeat ((conv => whnf) <;> first | refine wI (by omega) ?_ | refine wB (by omega) ?_ | refine wR (by omega) ?_ | refine wQ (by omega) ?_ | refine And.intro rfl ?_ | refine And.intro (by omega) ?_ | refine cTd (by omega) ?_ | refine cFd (by omega) ?_)
    (conv => whnf)
    exact ⟨_, Subs.refl' _, i + 1, ⟨by omega, zs2 (by omega) (ints_eq (code_odd hev (by rw [hm _ h97, e1]) (by omega) rfl))⟩, by show 112 - (i + 1) < 112 - i; omega⟩
 ·obtain rfl : i = 112 := by omega
  generalize codeL (strB s) 112 = c at *
  repeat ((conv => whnf) <;> first | refine wI (by omega) ?_ | refine wB (by omega) ?_ | refine wR (by omega) ?_ | refine wQ (by omega) ?_ | refine And.intro rfl ?_ | refine And.intro (by omega) ?_ | refine cTd (by omega) ?_ | refine cFd (by omega) ?_)
  refine ⟨⟨hc, hb⟩, ?_⟩
  (conv => whnf)
  refine ⟨rfl, ?_⟩
  (conv => whnf)
  exact h
theorem tb_elem_ok : Con Try.prog tb_elem.1 tb_elem.2 := con_tree tbl8e_ok o_elem [.atom (.var 0)] 1 Try.func73 rfl c_elem aw_elem g_elem
def tbl8b : Tab := tb_elem :: tbl8e
theorem tbl8b_ok : tbl8b.OK Try.prog := tab_cons tb_elem_ok <| tbl8e_ok
def o_apbase : Orc := { ans := [(1, oA 8), (2, oA 8), (3, oA 8)], lps := [] }
def t_apbase : Tree :=
 .new <|
 .call 73 [.atom (.const (.string ⟨#[52, 102, 49, 57, 55, 48, 99, 54, 54, 98, 101, 100, 48, 100, 101, 100, 50, 50, 49, 100, 49, 53, 97, 54, 50, 50, 98, 102, 51, 54, 100, 97, 57, 101, 49, 52, 54, 53, 55, 48, 52, 55, 48, 102, 49, 55, 54, 55, 101, 97, 54, 100, 101, 51, 50, 52, 97, 51, 100, 51, 97, 52, 54, 52, 49, 50, 97, 101, 49, 97, 102, 55, 50, 97, 98, 54, 54, 53, 49, 49, 52, 51, 51, 98, 56, 48, 101, 49, 56, 98, 48, 48, 57, 51, 56, 101, 50, 54, 50, 54, 97, 56, 50, 98, 99, 55, 48, 99, 99, 48, 53, 101]⟩))] ([], []) (.leaf (.agg [.whole 0 8])) 1 [] <|
 .call 73 [.atom (.const (.string ⟨#[54, 57, 51, 102, 52, 54, 55, 49, 54, 101, 98, 54, 98, 99, 50, 52, 56, 56, 55, 54, 50, 48, 51, 55, 53, 54, 99, 57, 99, 55, 54, 50, 52, 98, 101, 97, 55, 51, 55, 51, 54, 99, 97, 51, 57, 56, 52, 48, 56, 55, 55, 56, 57, 99, 49, 101, 48, 53, 97, 48, 99, 50, 100, 55, 51, 97, 100, 51, 102, 102, 49, 99, 101, 54, 55, 99, 51, 57, 99, 52, 102, 100, 98, 100, 49, 51, 50, 99, 52, 101, 100, 55, 99, 56, 97, 100, 57, 56, 48, 56, 55, 57, 53, 98, 102, 50, 51, 48, 102, 97, 49, 52]⟩))] ([], []) (.leaf (.agg [.whole 1 8])) 1 [] <|
 .call 33 [.atom (.const (.int .i64 1))] ([], []) (.leaf (.agg [.whole 2 8])) 1 [] <|
 .ret ([], []) (.leaf (.agg [.whole 0 8, .whole 1 8, .whole 2 8]))
theorem c_apbase : compF Try.prog Try.f39 o_apbase (Try.f39.body.getD .skip) (symIn [] Try.f39.ntmps 0) = some t_apbase := by kernel_rfl
theorem g_apbase : goodC Try.prog o_apbase.ords (Try.f39.body.getD .skip) = true := by kernel_rfl
def tb_apbase : FuncId × Trans := (39, auto Try.prog tbl8b [] 0 t_apbase)
theorem tb_apbase_ok : Con Try.prog tb_apbase.1 tb_apbase.2 := con_tree tbl8b_ok o_apbase [] 0 Try.func39 rfl c_apbase (fun _ _ h => h) g_apbase
def bxS : ByteArray := ⟨#[52, 102, 49, 57, 55, 48, 99, 54, 54, 98, 101, 100, 48, 100, 101, 100, 50, 50, 49, 100, 49, 53, 97, 54, 50, 50, 98, 102, 51, 54, 100, 97, 57, 101, 49, 52, 54, 53, 55, 48, 52, 55, 48, 102, 49, 55, 54, 55, 101, 97, 54, 100, 101, 51, 50, 52, 97, 51, 100, 51, 97, 52, 54, 52, 49, 50, 97, 101, 49, 97, 102, 55, 50, 97, 98, 54, 54, 53, 49, 49, 52, 51, 51, 98, 56, 48, 101, 49, 56, 98, 48, 48, 57, 51, 56, 101, 50, 54, 50, 54, 97, 56, 50, 98, 99, 55, 48, 99, 99, 48, 53, 101]⟩
def byS : ByteArray := ⟨#[54, 57, 51, 102, 52, 54, 55, 49, 54, 101, 98, 54, 98, 99, 50, 52, 56, 56, 55, 54, 50, 48, 51, 55, 53, 54, 99, 57, 99, 55, 54, 50, 52, 98, 101, 97, 55, 51, 55, 51, 54, 99, 97, 51, 57, 56, 52, 48, 56, 55, 55, 56, 57, 99, 49, 101, 48, 53, 97, 48, 99, 50, 100, 55, 51, 97, 100, 51, 102, 102, 49, 99, 101, 54, 55, 99, 51, 57, 99, 52, 102, 100, 98, 100, 49, 51, 50, 99, 52, 101, 100, 55, 99, 56, 97, 100, 57, 56, 48, 56, 55, 57, 53, 98, 102, 50, 51, 48, 102, 97, 49, 52]⟩
theorem bx_ok : ((strB bxS).length = 112 ∧ HexOK (strB bxS) ∧ By (codeL (strB bxS) 112)) ∧ bval (codeL (strB bxS) 112) = bxN := by decide +kernel
theorem by_ok : ((strB byS).length = 112 ∧ HexOK (strB byS) ∧ By (codeL (strB byS) 112)) ∧ bval (codeL (strB byS) 112) = byN := by decide +kernel
def tb_pbase : FuncId × Trans := (39, tG0 (fun g => .ob (.pt g)) BG)
set_option maxRecDepth 100000 in
theorem tb_pbase_ok : Con Try.prog tb_pbase.1 tb_pbase.2 := con_G0 way_pt tb_apbase_ok (by
 (conv => whnf)
 refine ⟨bx_ok.1, ?_⟩
 (conv => whnf)
 refine ⟨by_ok.1, ?_⟩
 (conv => whnf)
 refine ⟨⟨by decide, by decide⟩, ?_⟩
 (conv => whnf)
 refine ⟨_, _, _, rfl, ?_⟩
 have e1 := bx_ok.2
 have e2 := by_ok.2
 exact (show ∀ a b : Int, a = bxN → b = byN → Rep (z a) (z b) (z 1) BG from fun a b ha hb => by subst ha hb; exact Rep.of BG) _ _ e1 e2)
end Go.Proofs.Ytohebkkiicbdoaa
