/- Chapter 11: the document's numbers -/
import Derived.Test.YtamgmkeoaaaliaaCmc
set_option linter.unusedSimpArgs false
set_option linter.unusedVariables false
namespace Go.Proofs.Ytamgmkeoaaaliaa
open Go.RowKit FdP FdP.Ch
def pw8 (m : Nat) : Nat := 2 ^ (m % 8)
theorem pw8_le (m : Nat) : pw8 m ≤ 128 := by
  have h : ∀ k : Fin 8, 2 ^ k.val ≤ 128 := by decide
  exact h ⟨m % 8, Nat.mod_lt _ (by omega)⟩
theorem pw8_split (m : Nat) : 2 ^ m = pw8 m * 256 ^ (m / 8) := by
  unfold pw8
  conv => lhs; rw [← Nat.mod_add_div m 8, Nat.pow_add, Nat.pow_mul]
theorem by_setW {l : List Int} (h : By l) (i : Nat) {v : Int} (hv : 0 ≤ v ∧ v < 256) : By (l.set i v) := fun x hx => by
  rcases List.mem_or_eq_of_mem_set hx with hx | rfl
  · exact h x hx
  · exact hv
def pwB (m : Nat) : List Int := (List.replicate (m / 8 + 1) (0 : Int)).set (m / 8) (pw8 m : Int)
theorem pwB_len (m : Nat) : (pwB m).length = m / 8 + 1 := by simp [pwB]
theorem rep_getD (n i : Nat) : (List.replicate n (0 : Int)).getD i 0 = 0 := by
  rw [List.getD_eq_getElem?_getD, List.getElem?_replicate]; split <;> rfl
theorem pwB_getD (m i : Nat) : (pwB m).getD i 0 = if i = m / 8 then (pw8 m : Int) else 0 := by
  unfold pwB
  by_cases h : i = m / 8
  · subst h
    rw [if_pos rfl, List.getD_eq_getElem?_getD, List.getElem?_set_self (by rw [List.length_replicate]; omega)]; rfl
  · rw [if_neg h, List.getD_eq_getElem?_getD, List.getElem?_set_ne (fun e => h e.symm), ← List.getD_eq_getElem?_getD, rep_getD]
theorem by_of_getD {l : List Int} (h : ∀ i, i < l.length → 0 ≤ l.getD i 0 ∧ l.getD i 0 < 256) : By l := fun x hx => by
  obtain ⟨i, hi, rfl⟩ := List.getElem_of_mem hx
  have := h i hi
  rwa [List.getD_eq_getElem?_getD, List.getElem?_eq_getElem hi] at this
theorem pwB_by (m : Nat) : By (pwB m) := by_of_getD fun i _ => by
  rw [pwB_getD]
  have := pw8_le m
  split <;> omega
theorem bval_rep : ∀ n, bval (List.replicate n (0 : Int)) = 0
  | 0 => rfl
  | n + 1 => by show 0 + 256 * bval (List.replicate n (0 : Int)) = 0; rw [bval_rep n]; rfl
theorem bval_set : ∀ (l : List Int) (i : Nat) (v : Int), i < l.length → bval (l.set i (l.getD i 0 + v)) = bval l + v * 256 ^ i
  | a :: l, 0, v, _ => by show (a + v) + 256 * bval l = a + 256 * bval l + v * 256 ^ 0; rw [Int.pow_zero]; omega
  | a :: l, i + 1, v, h => by
    have ih := bval_set l i v (by simpa using h)
    show a + 256 * bval (l.set i (l.getD i 0 + v)) = a + 256 * bval l + v * 256 ^ (i + 1)
    rw [ih, Int.pow_succ, Int.mul_add, ← Int.mul_assoc v, Int.mul_comm (v * 256 ^ i) 256, Int.add_assoc]
theorem pow_split (m : Nat) : (pw8 m : Int) * 256 ^ (m / 8) = ((2 ^ m : Nat) : Int) := by
  rw [pw8_split m, Int.natCast_mul, Int.natCast_pow]; rfl
theorem pwB_bval (m : Nat) : bval (pwB m) = ((2 ^ m : Nat) : Int) := by
  have h := bval_set (List.replicate (m / 8 + 1) (0 : Int)) (m / 8) (pw8 m : Int) (by rw [List.length_replicate]; omega)
  rw [rep_getD, Int.zero_add, bval_rep, Int.zero_add, pow_split] at h
  exact h
theorem pwB_nval (m : Nat) : nval (pwB m) = 2 ^ m := by unfold nval; rw [pwB_bval]; rfl
def woB (ap n i : Nat) : Nat → List Int
  | 0 => List.replicate n 0
  | j + 1 => if i / 2 ^ j % 2 = 1 then (woB ap n i j).set (ap * j / 8) ((woB ap n i j).getD (ap * j / 8) 0 + (pw8 (ap * j) : Int)) else woB ap n i j
theorem woB_s (ap n i j : Nat) : woB ap n i (j + 1) = if i / 2 ^ j % 2 = 1 then (woB ap n i j).set (ap * j / 8) ((woB ap n i j).getD (ap * j / 8) 0 + (pw8 (ap * j) : Int)) else woB ap n i j := rfl
theorem woB_len (ap n i : Nat) : ∀ j, (woB ap n i j).length = n
  | 0 => List.length_replicate
  | j + 1 => by rw [woB_s]; split <;> simp [woB_len ap n i j]
theorem worN_lt {ap : Nat} (ha : 1 ≤ ap) (i : Nat) : ∀ j, worN ap j i < 2 ^ (ap * j)
  | 0 => by simp [worN]
  | j + 1 => by
    have h := worN_lt ha i j
    have : 2 * 2 ^ (ap * j) ≤ 2 ^ (ap * (j + 1)) := by
      rw [Nat.mul_succ, Nat.pow_add, Nat.mul_comm]
      exact Nat.mul_le_mul_left _ (Nat.pow_le_pow_right (n := 2) (by omega) ha)
    rw [worN_s]; split <;> omega
theorem byte_room {l : List Int} (hb : By l) {m : Nat} (hm : m / 8 < l.length) (h : bval l < 2 ^ m) : 0 ≤ l.getD (m / 8) 0 ∧ l.getD (m / 8) 0 + (pw8 m : Int) < 256 := by
  have hg := by_getD' hb (m / 8)
  have e := bval_byte hb hm
  have h0 := (bval_bd hb).1
  obtain ⟨b, hb'⟩ := Int.eq_ofNat_of_zero_le h0
  rw [hb'] at e h
  have h3 : b < pw8 m * 256 ^ (m / 8) := by rw [← pw8_split]; exact_mod_cast h
  have h4 : b / 256 ^ (m / 8) < pw8 m := by rw [Nat.div_lt_iff_lt_mul (Nat.pow_pos (by omega))]; exact h3
  have h5 : l.getD (m / 8) 0 = ((b / 256 ^ (m / 8) % 256 : Nat) : Int) := by
    rw [← e, Int.natCast_emod, Int.natCast_ediv, Int.natCast_pow]; rfl
  have h6 : b / 256 ^ (m / 8) % 256 ≤ b / 256 ^ (m / 8) := Nat.mod_le _ _
  have := pw8_le m
  omega
theorem woB_ok {ap n i t : Nat} (ha : 1 ≤ ap) (hn : ap * t / 8 < n) : ∀ j, j ≤ t → By (woB ap n i j) ∧ bval (woB ap n i j) = (worN ap j i : Int)
  | 0, _ => ⟨fun x hx => by rw [List.eq_of_mem_replicate hx]; omega, bval_rep n⟩
  | j + 1, h => by
    obtain ⟨h1, h2⟩ := woB_ok ha hn j (by omega)
    have hl := woB_len ap n i j
    have hj : ap * j / 8 < n := by
      have : ap * j ≤ ap * t := Nat.mul_le_mul_left _ (by omega)
      omega
    rw [woB_s, worN_s]
    by_cases hb : i / 2 ^ j % 2 = 1
    · rw [if_pos hb, if_pos hb]
      have hr := byte_room (l := woB ap n i j) (m := ap * j) h1 (by omega) (by rw [h2]; exact_mod_cast worN_lt ha i j)
      have hp : (0 : Int) ≤ (pw8 (ap * j) : Int) := Int.natCast_nonneg _
      refine ⟨by_setW h1 _ (by omega), ?_⟩
      rw [bval_set _ _ _ (by omega), h2, pow_split, Int.natCast_add]
    · rw [if_neg hb, if_neg hb]; exact ⟨h1, by rw [h2]; simp⟩
def tPow11 : Trans := fun zs Q => match zs with
  | [.int .i64 n] => (0 ≤ n ∧ n ≤ 100000) ∧ Q (.isl .u8 (pwB n.toNat))
  | _ => False
def tRows11 : Trans := fun zs Q => match zs with
  | [.int .i64 t, .int .i64 s] => (1 ≤ t ∧ t ≤ 4 ∧ 1 ≤ s ∧ s ≤ 64) ∧ Q (.int .i64 ((8 * s + t - 1) / t))
  | _ => False
def tWorth : Trans := fun zs Q => match zs with
  | [.int .i64 i, .int .i64 t, .int .i64 s] => (0 ≤ i ∧ I64 i ∧ 1 ≤ t ∧ t ≤ 4 ∧ 1 ≤ s ∧ s ≤ 64) ∧ Q (.isl .u8 (woB (apN t s) (apN t s * t.toNat / 8 + 1) i.toNat t.toNat))
  | _ => False
theorem zs3c {a a' b b' : Int} {l l' : List Int} (h1 : a = a') (h2 : b = b') (h3 : l = l') : [AV.int .i64 a, .int .i64 b, .ints .u8 l] = [.int .i64 a', .int .i64 b', .ints .u8 l'] := by rw [h1, h2, h3]
def o_pow11 : Orc := { ans := [(7, .one ⟨.leaf (.atom (.var 0)), 1, []⟩), (8, .one ⟨.leaf (.atom (.var 0)), 1, []⟩), (9, .one ⟨.leaf (.atom (.var 0)), 1, []⟩), (12, .one ⟨.leaf (.atom (.var 0)), 1, []⟩), (13, .two ⟨.leaf (.atom (.const (.bool true))), 0, []⟩ ⟨.leaf (.atom (.const (.bool false))), 0, []⟩), (17, .one ⟨.leaf (.atom (.var 0)), 1, []⟩), (15, .one ⟨.leaf (.atom (.var 0)), 1, []⟩), (20, .one ⟨.leaf (.atom (.var 0)), 1, []⟩), (22, .one ⟨.leaf (.atom (.var 0)), 1, []⟩), (23, .one ⟨.leaf (.atom (.var 0)), 1, []⟩)], lps := [(0, [.slot 4 [.one], .slot 5 [.one], .cont 3 5 1])], rws := [9] }
def t_pow11 : Tree :=
  .calc (.binOp .quo 3 (.tmp 6) (.const (.int .i64 8)) 3) 3 [(6, .leaf (.atom (.var 0)))] ([], []) (.leaf (.atom (.var 1))) 1 <|
  .calc (.binOp .add 3 (.tmp 7) (.const (.int .i64 1)) 3) 3 [(7, .leaf (.atom (.var 1)))] ([], []) (.leaf (.atom (.var 2))) 1 <|
  .mkx 2 [.int .u8 0] <|
  .loop [.atom (.const (.int .i64 1)), .atom (.const (.int .i64 0)), .agg [.rest 4]] [.one, .one, .row] <|
  .calc (.binOp .rem 3 (.tmp 11) (.const (.int .i64 8)) 3) 3 [(11, .leaf (.atom (.var 0)))] ([], []) (.leaf (.atom (.var 8))) 1 <|
  .calc2 (.binOp .lss 3 (.tmp 10) (.tmp 12) 3) 4 [(10, .leaf (.atom (.var 6))), (12, .leaf (.atom (.var 8)))] ([], []) (.leaf (.atom (.const (.bool true)))) 0 (
    .calc (.binOp .mul 3 (.tmp 16) (.const (.int .i64 2)) 3) 3 [(16, .leaf (.atom (.var 5)))] ([], []) (.leaf (.atom (.var 9))) 1 <|
    .calc (.binOp .add 3 (.tmp 14) (.const (.int .i64 1)) 3) 3 [(14, .leaf (.atom (.var 6)))] ([], []) (.leaf (.atom (.var 10))) 1 <|
    .again 0 [.atom (.var 9), .atom (.var 10), .agg [.rest 7]]) (.leaf (.atom (.const (.bool false)))) 0 <|
  .calc (.binOp .quo 3 (.tmp 19) (.const (.int .i64 8)) 3) 3 [(19, .leaf (.atom (.var 0)))] ([], []) (.leaf (.atom (.var 9))) 1 <|
  .calc (.convert 3 5 (.tmp 21)) 5 [(21, .leaf (.atom (.var 5)))] ([], []) (.leaf (.atom (.var 10))) 1 <|
  .boundx 9 3 <|
  .sti [.rest 7] 0 9 1 1 [.one (.var 10)] <|
  .ret ([], [⟨3, 11, 5, 1⟩]) (.leaf (.atom (.var 3)))
theorem c_pow11 : compF Try.prog Try.f22 o_pow11 (Try.f22.body.getD .skip) (symIn [.atom (.var 0)] Try.f22.ntmps 1) = some t_pow11 := by kernel_rfl
theorem g_pow11 : goodC Try.prog o_pow11.ords (Try.f22.body.getD .skip) = true := by kernel_rfl
def tb_pow11 : FuncId × Trans := (22, tPow11)
set_option maxRecDepth 100000 in
theorem aw_pow11 : ∀ zs Q, tb_pow11.2 zs Q → bindLs 0 [.atom (.var 0)] zs fun ae => bif Nat.beq ae.length 1 then AWp Try.prog tcNil Q t_pow11 [] ae else False := by
  intro zs Q h
  replace h : tPow11 zs Q := h
  unfold tPow11 at h
  split at h
  case h_2 => exact h.elim
  rename_i n
  obtain ⟨⟨hn, hl⟩, h⟩ := h
  repeat ((conv => whnf) <;> first | with_reducible first | refine wI (by omega) ?_ | refine wB (by omega) ?_ | refine wR (by omega) ?_ | refine wQ (by omega) ?_ | refine And.intro rfl ?_ | rfl | refine And.intro ‹_› ?_ | refine cTe ‹_› ?_ | refine cFe ‹_› ?_ | refine cN (cTe ‹_› ?_) | refine cN (cFe ‹_› ?_) | refine cTe rfl ?_ | refine cEq ‹_› ?_ | refine cTt ?_ | refine cNt ?_ | refine cF (Eq.refl false) ?_ | refine cN (cF (Eq.refl false) ?_) | refine cTd (by omega) ?_ | refine cFd (by omega) ?_ | refine cN (cTd (by omega) ?_) | refine cN (cFd (by omega) ?_) | refine And.intro (fun hh : Option.isSome none = true => by cases hh) ?_ | refine And.intro (by omega) ?_ | refine And.intro (Eq.refl true) ?_ | refine And.intro (Eq.refl (1 : Nat)) ?_)
  refine ⟨Nat, fun k zs => k ≤ n.toNat % 8 ∧ zs = [.int .i64 ((2 ^ k : Nat) : Int), .int .i64 (k : Int), .ints .u8 (List.replicate (n / 8 + 1).toNat 0)], fun k => n.toNat % 8 - k, 0, ?_, ?_⟩
  · (conv => whnf)
    exact ⟨_, Subs.refl' _, Nat.zero_le _, zs3c rfl rfl rfl⟩
  rintro k _ ⟨hk, rfl⟩
  have hs : 2 ^ (k + 1) = 2 * 2 ^ k := by rw [Nat.pow_succ]; omega
  have hb : 2 ^ k ≤ 2 ^ 7 := Nat.pow_le_pow_right (by omega) (by omega)
  have hB : pw8 n.toNat = 2 ^ (n.toNat % 8) := rfl
  by_cases hlt : k < n.toNat % 8
  · generalize 2 ^ k = B at *
    have hB2 : B ≤ 128 := hb
    repeat ((conv => whnf) <;> first | with_reducible first | refine wI (by omega) ?_ | refine wB (by omega) ?_ | refine wR (by omega) ?_ | refine wQ (by omega) ?_ | refine And.intro rfl ?_ | rfl | refine And.intro ‹_› ?_ | refine cTe ‹_› ?_ | refine cFe ‹_› ?_ | refine cN (cTe ‹_› ?_) | refine cN (cFe ‹_› ?_) | refine cTe rfl ?_ | refine cEq ‹_› ?_ | refine cTt ?_ | refine cNt ?_ | refine cF (Eq.refl false) ?_ | refine cN (cF (Eq.refl false) ?_) | refine cTd (by omega) ?_ | refine cFd (by omega) ?_ | refine cN (cTd (by omega) ?_) | refine cN (cFd (by omega) ?_) | refine And.intro (fun hh : Option.isSome none = true => by cases hh) ?_ | refine And.intro (by omega) ?_ | refine And.intro (Eq.refl true) ?_ | refine And.intro (Eq.refl (1 : Nat)) ?_)
    (conv => whnf)
    exact ⟨_, Subs.refl' _, k + 1, ⟨by omega, zs3c (by rw [hs]; omega) (by omega) rfl⟩, by show n.toNat % 8 - (k + 1) < n.toNat % 8 - k; omega⟩
  · obtain rfl : k = n.toNat % 8 := by omega
    have e : pwB n.toNat = (List.replicate (n / 8 + 1).toNat 0).set (0 + (n / 8).toNat * 1) (pw8 n.toNat : Int) := by
      unfold pwB; rw [show (n / 8 + 1).toNat = n.toNat / 8 + 1 by omega, show 0 + (n / 8).toNat * 1 = n.toNat / 8 by omega]
    rw [e] at h
    have rl : (List.replicate (n / 8 + 1).toNat (0 : Int)).length = (n / 8 + 1).toNat := List.length_replicate
    rw [← hB]
    have hB2 := pw8_le n.toNat
    generalize pw8 n.toNat = B at *
    repeat ((conv => whnf) <;> first | with_reducible first | refine wI (by omega) ?_ | refine wB (by omega) ?_ | refine wR (by omega) ?_ | refine wQ (by omega) ?_ | refine And.intro rfl ?_ | rfl | refine And.intro ‹_› ?_ | refine cTe ‹_› ?_ | refine cFe ‹_› ?_ | refine cN (cTe ‹_› ?_) | refine cN (cFe ‹_› ?_) | refine cTe rfl ?_ | refine cEq ‹_› ?_ | refine cTt ?_ | refine cNt ?_ | refine cF (Eq.refl false) ?_ | refine cN (cF (Eq.refl false) ?_) | refine cTd (by omega) ?_ | refine cFd (by omega) ?_ | refine cN (cTd (by omega) ?_) | refine cN (cFd (by omega) ?_) | refine And.intro (fun hh : Option.isSome none = true => by cases hh) ?_ | refine And.intro (by omega) ?_ | refine And.intro (Eq.refl true) ?_ | refine And.intro (Eq.refl (1 : Nat)) ?_)
    (conv => whnf)
    exact h
theorem tb_pow11_ok : Con Try.prog tb_pow11.1 tb_pow11.2 := con_tree tcNil_ok o_pow11 [.atom (.var 0)] 1 Try.func22 rfl c_pow11 aw_pow11 g_pow11
def o_rows11 : Orc := { ans := [(7, .one ⟨.leaf (.atom (.var 0)), 1, []⟩), (9, .one ⟨.leaf (.atom (.var 0)), 1, []⟩), (12, .one ⟨.leaf (.atom (.var 0)), 1, []⟩), (14, .one ⟨.leaf (.atom (.var 0)), 1, []⟩), (15, .two ⟨.leaf (.atom (.const (.bool true))), 0, []⟩ ⟨.leaf (.atom (.const (.bool false))), 0, []⟩), (17, .one ⟨.leaf (.atom (.var 0)), 1, []⟩)], lps := [] }
def t_rows11 : Tree :=
  .calc (.binOp .mul 3 (.const (.int .i64 8)) (.tmp 6) 3) 3 [(6, .leaf (.atom (.var 1)))] ([], []) (.leaf (.atom (.var 2))) 1 <|
  .calc (.binOp .quo 3 (.tmp 7) (.tmp 8) 3) 3 [(7, .leaf (.atom (.var 2))), (8, .leaf (.atom (.var 0)))] ([], []) (.leaf (.atom (.var 3))) 1 <|
  .calc (.binOp .mul 3 (.tmp 10) (.tmp 11) 3) 3 [(10, .leaf (.atom (.var 3))), (11, .leaf (.atom (.var 0)))] ([], []) (.leaf (.atom (.var 4))) 1 <|
  .calc (.binOp .mul 3 (.const (.int .i64 8)) (.tmp 13) 3) 3 [(13, .leaf (.atom (.var 1)))] ([], []) (.leaf (.atom (.var 5))) 1 <|
  .calc2 (.binOp .lss 3 (.tmp 12) (.tmp 14) 3) 4 [(12, .leaf (.atom (.var 4))), (14, .leaf (.atom (.var 5)))] ([], []) (.leaf (.atom (.const (.bool true)))) 0 (
    .calc (.binOp .add 3 (.tmp 16) (.const (.int .i64 1)) 3) 3 [(16, .leaf (.atom (.var 3)))] ([], []) (.leaf (.atom (.var 6))) 1 <|
    .ret ([], []) (.leaf (.atom (.var 6)))) (.leaf (.atom (.const (.bool false)))) 0 <|
  .ret ([], []) (.leaf (.atom (.var 3)))
theorem c_rows11 : compF Try.prog Try.f50 o_rows11 (Try.f50.body.getD .skip) (symIn [.atom (.var 0), .atom (.var 1)] Try.f50.ntmps 2) = some t_rows11 := by kernel_rfl
theorem g_rows11 : goodC Try.prog o_rows11.ords (Try.f50.body.getD .skip) = true := by kernel_rfl
def tb_rows11 : FuncId × Trans := (50, tRows11)
set_option maxRecDepth 100000 in
theorem aw_rows11 : ∀ zs Q, tb_rows11.2 zs Q → bindLs 0 [.atom (.var 0), .atom (.var 1)] zs fun ae => bif Nat.beq ae.length 2 then AWp Try.prog tcNil Q t_rows11 [] ae else False := by
  intro zs Q h
  replace h : tRows11 zs Q := h
  unfold tRows11 at h
  split at h
  case h_2 => exact h.elim
  rename_i t s
  obtain ⟨⟨h1, h2, h3, h4⟩, h⟩ := h
  rcases (by omega : t = 1 ∨ t = 2 ∨ t = 3 ∨ t = 4) with rfl | rfl | rfl | rfl
  · repeat ((conv => whnf) <;> first | with_reducible first | refine wI (by omega) ?_ | refine wB (by omega) ?_ | refine wR (by omega) ?_ | refine wQ (by omega) ?_ | refine And.intro rfl ?_ | rfl | refine And.intro ‹_› ?_ | refine cTe ‹_› ?_ | refine cFe ‹_› ?_ | refine cN (cTe ‹_› ?_) | refine cN (cFe ‹_› ?_) | refine cTe rfl ?_ | refine cEq ‹_› ?_ | refine cTt ?_ | refine cNt ?_ | refine cF (Eq.refl false) ?_ | refine cN (cF (Eq.refl false) ?_) | refine cTd (by omega) ?_ | refine cFd (by omega) ?_ | refine cN (cTd (by omega) ?_) | refine cN (cFd (by omega) ?_) | refine And.intro (fun hh : Option.isSome none = true => by cases hh) ?_ | refine And.intro (by omega) ?_ | refine And.intro (Eq.refl true) ?_ | refine And.intro (Eq.refl (1 : Nat)) ?_)
    (conv => whnf)
    rw [show 8 * s / 1 = (8 * s + 1 - 1) / 1 by omega]
    exact h
  · repeat ((conv => whnf) <;> first | with_reducible first | refine wI (by omega) ?_ | refine wB (by omega) ?_ | refine wR (by omega) ?_ | refine wQ (by omega) ?_ | refine And.intro rfl ?_ | rfl | refine And.intro ‹_› ?_ | refine cTe ‹_› ?_ | refine cFe ‹_› ?_ | refine cN (cTe ‹_› ?_) | refine cN (cFe ‹_› ?_) | refine cTe rfl ?_ | refine cEq ‹_› ?_ | refine cTt ?_ | refine cNt ?_ | refine cF (Eq.refl false) ?_ | refine cN (cF (Eq.refl false) ?_) | refine cTd (by omega) ?_ | refine cFd (by omega) ?_ | refine cN (cTd (by omega) ?_) | refine cN (cFd (by omega) ?_) | refine And.intro (fun hh : Option.isSome none = true => by cases hh) ?_ | refine And.intro (by omega) ?_ | refine And.intro (Eq.refl true) ?_ | refine And.intro (Eq.refl (1 : Nat)) ?_)
    (conv => whnf)
    rw [show 8 * s / 2 = (8 * s + 2 - 1) / 2 by omega]
    exact h
  · by_cases hc : 8 * s / 3 * 3 < 8 * s
    · repeat ((conv => whnf) <;> first | with_reducible first | refine wI (by omega) ?_ | refine wB (by omega) ?_ | refine wR (by omega) ?_ | refine wQ (by omega) ?_ | refine And.intro rfl ?_ | rfl | refine And.intro ‹_› ?_ | refine cTe ‹_› ?_ | refine cFe ‹_› ?_ | refine cN (cTe ‹_› ?_) | refine cN (cFe ‹_› ?_) | refine cTe rfl ?_ | refine cEq ‹_› ?_ | refine cTt ?_ | refine cNt ?_ | refine cF (Eq.refl false) ?_ | refine cN (cF (Eq.refl false) ?_) | refine cTd (by omega) ?_ | refine cFd (by omega) ?_ | refine cN (cTd (by omega) ?_) | refine cN (cFd (by omega) ?_) | refine And.intro (fun hh : Option.isSome none = true => by cases hh) ?_ | refine And.intro (by omega) ?_ | refine And.intro (Eq.refl true) ?_ | refine And.intro (Eq.refl (1 : Nat)) ?_)
      (conv => whnf)
      rw [show 8 * s / 3 + 1 = (8 * s + 3 - 1) / 3 by omega]
      exact h
    · repeat ((conv => whnf) <;> first | with_reducible first | refine wI (by omega) ?_ | refine wB (by omega) ?_ | refine wR (by omega) ?_ | refine wQ (by omega) ?_ | refine And.intro rfl ?_ | rfl | refine And.intro ‹_› ?_ | refine cTe ‹_› ?_ | refine cFe ‹_› ?_ | refine cN (cTe ‹_› ?_) | refine cN (cFe ‹_› ?_) | refine cTe rfl ?_ | refine cEq ‹_› ?_ | refine cTt ?_ | refine cNt ?_ | refine cF (Eq.refl false) ?_ | refine cN (cF (Eq.refl false) ?_) | refine cTd (by omega) ?_ | refine cFd (by omega) ?_ | refine cN (cTd (by omega) ?_) | refine cN (cFd (by omega) ?_) | refine And.intro (fun hh : Option.isSome none = true => by cases hh) ?_ | refine And.intro (by omega) ?_ | refine And.intro (Eq.refl true) ?_ | refine And.intro (Eq.refl (1 : Nat)) ?_)
      (conv => whnf)
      rw [show 8 * s / 3 = (8 * s + 3 - 1) / 3 by omega]
      exact h
  · repeat ((conv => whnf) <;> first | with_reducible first | refine wI (by omega) ?_ | refine wB (by omega) ?_ | refine wR (by omega) ?_ | refine wQ (by omega) ?_ | refine And.intro rfl ?_ | rfl | refine And.intro ‹_› ?_ | refine cTe ‹_› ?_ | refine cFe ‹_› ?_ | refine cN (cTe ‹_› ?_) | refine cN (cFe ‹_› ?_) | refine cTe rfl ?_ | refine cEq ‹_› ?_ | refine cTt ?_ | refine cNt ?_ | refine cF (Eq.refl false) ?_ | refine cN (cF (Eq.refl false) ?_) | refine cTd (by omega) ?_ | refine cFd (by omega) ?_ | refine cN (cTd (by omega) ?_) | refine cN (cFd (by omega) ?_) | refine And.intro (fun hh : Option.isSome none = true => by cases hh) ?_ | refine And.intro (by omega) ?_ | refine And.intro (Eq.refl true) ?_ | refine And.intro (Eq.refl (1 : Nat)) ?_)
    (conv => whnf)
    rw [show 8 * s / 4 = (8 * s + 4 - 1) / 4 by omega]
    exact h
theorem tb_rows11_ok : Con Try.prog tb_rows11.1 tb_rows11.2 := con_tree tcNil_ok o_rows11 [.atom (.var 0), .atom (.var 1)] 2 Try.func50 rfl c_rows11 aw_rows11 g_rows11
def tcI : Tab := tb_rows11 :: tb_pow11 :: []
theorem tcI_ok : tcI.OK Try.prog := tab_cons tb_rows11_ok <| tab_cons tb_pow11_ok <| tab_nil _
def o_worth11 : Orc := { ans := [(13, .one ⟨.leaf (.atom (.var 0)), 1, []⟩), (16, .one ⟨.leaf (.atom (.var 0)), 1, []⟩), (17, .one ⟨.leaf (.atom (.var 0)), 1, []⟩), (18, .one ⟨.leaf (.atom (.var 0)), 1, []⟩), (19, .one ⟨.leaf (.atom (.var 0)), 1, []⟩), (22, .two ⟨.leaf (.atom (.const (.bool true))), 0, []⟩ ⟨.leaf (.atom (.const (.bool false))), 0, []⟩), (26, .one ⟨.leaf (.atom (.var 0)), 1, []⟩), (27, .two ⟨.leaf (.atom (.const (.bool true))), 0, []⟩ ⟨.leaf (.atom (.const (.bool false))), 0, []⟩), (30, .one ⟨.leaf (.atom (.var 0)), 1, []⟩), (31, .one ⟨.leaf (.atom (.var 0)), 1, []⟩), (34, .one ⟨.leaf (.atom (.var 0)), 1, []⟩), (35, .one ⟨.leaf (.atom (.var 0)), 1, []⟩), (38, .one ⟨.leaf (.atom (.var 0)), 1, []⟩), (39, .one ⟨.leaf (.atom (.var 0)), 1, []⟩), (40, .one ⟨.leaf (.atom (.var 0)), 1, []⟩), (41, .one ⟨.leaf (.atom (.var 0)), 1, []⟩), (44, .one ⟨.leaf (.atom (.var 0)), 1, []⟩), (45, .one ⟨.leaf (.atom (.var 0)), 1, []⟩), (46, .one ⟨.leaf (.atom (.var 0)), 1, []⟩), (47, .one ⟨.leaf (.atom (.var 0)), 1, []⟩), (48, .one ⟨.leaf (.atom (.var 0)), 1, []⟩), (49, .one ⟨.leaf (.atom (.var 0)), 1, []⟩), (51, .one ⟨.leaf (.atom (.var 0)), 1, []⟩), (24, .one ⟨.leaf (.atom (.var 0)), 1, []⟩)], lps := [(0, [.slot 0 [.one], .slot 9 [.one], .cont 8 5 1])], ords := [(8, [.pure 0, .pure 1, .quiet 2, .quiet 3, .pure 4, .pure 5, .quiet 6, .quiet 7, .quiet 8, .quiet 9, .pure 10, .pure 11, .quiet 12, .quiet 13, .quiet 14, .quiet 15, .quiet 16, .quiet 17, .last 18])], rws := [19] }
def t_worth11 : Tree :=
  .call 50 [.atom (.var 1), .atom (.var 2)] ([], []) (.leaf (.atom (.var 3))) 1 [] <|
  .calc (.binOp .mul 3 (.tmp 14) (.tmp 15) 3) 3 [(14, .leaf (.atom (.var 3))), (15, .leaf (.atom (.var 1)))] ([], []) (.leaf (.atom (.var 4))) 1 <|
  .calc (.binOp .quo 3 (.tmp 16) (.const (.int .i64 8)) 3) 3 [(16, .leaf (.atom (.var 4)))] ([], []) (.leaf (.atom (.var 5))) 1 <|
  .calc (.binOp .add 3 (.tmp 17) (.const (.int .i64 1)) 3) 3 [(17, .leaf (.atom (.var 5)))] ([], []) (.leaf (.atom (.var 6))) 1 <|
  .mkx 6 [.int .u8 0] <|
  .loop [.atom (.var 0), .atom (.const (.int .i64 0)), .agg [.rest 8]] [.one, .one, .row] <|
  .calc2 (.binOp .lss 3 (.tmp 20) (.tmp 21) 3) 4 [(20, .leaf (.atom (.var 10))), (21, .leaf (.atom (.var 1)))] ([], []) (.leaf (.atom (.const (.bool true)))) 0 (
    .calc (.binOp .rem 3 (.tmp 25) (.const (.int .i64 2)) 3) 3 [(25, .leaf (.atom (.var 9)))] ([], []) (.leaf (.atom (.var 12))) 1 <|
    .calc2 (.binOp .eql 3 (.tmp 26) (.const (.int .i64 1)) 3) 4 [(26, .leaf (.atom (.var 12)))] ([], []) (.leaf (.atom (.const (.bool true)))) 0 (
      .calc (.binOp .mul 3 (.tmp 28) (.tmp 29) 3) 3 [(28, .leaf (.atom (.var 3))), (29, .leaf (.atom (.var 10)))] ([], []) (.leaf (.atom (.var 13))) 1 <|
      .call 22 [.atom (.var 13)] ([], []) (.leaf (.atom (.var 14))) 1 [] <|
      .calc (.call { callee := .builtin .len, args := #[.tmp 33], argTypes := #[25] }) 3 [(33, .leaf (.atom (.var 14)))] ([], []) (.leaf (.atom (.var 15))) 1 <|
      .calc (.binOp .sub 3 (.tmp 34) (.const (.int .i64 1)) 3) 3 [(34, .leaf (.atom (.var 15)))] ([], []) (.leaf (.atom (.var 16))) 1 <|
      .calc (.call { callee := .builtin .len, args := #[.tmp 37], argTypes := #[25] }) 3 [(37, .leaf (.atom (.var 14)))] ([], []) (.leaf (.atom (.var 17))) 1 <|
      .calc (.binOp .sub 3 (.tmp 38) (.const (.int .i64 1)) 3) 3 [(38, .leaf (.atom (.var 17)))] ([], []) (.leaf (.atom (.var 18))) 1 <|
      .boundx 18 7 <|
      .ldi [.rest 11] 0 18 1 1 false <|
      .calc (.call { callee := .builtin .len, args := #[.tmp 43], argTypes := #[25] }) 3 [(43, .leaf (.atom (.var 14)))] ([], []) (.leaf (.atom (.var 20))) 1 <|
      .calc (.binOp .sub 3 (.tmp 44) (.const (.int .i64 1)) 3) 3 [(44, .leaf (.atom (.var 20)))] ([], []) (.leaf (.atom (.var 21))) 1 <|
      .calc (.indexAddr 25 (.tmp 42) (.tmp 45)) 0 [(42, .leaf (.atom (.var 14))), (45, .leaf (.atom (.var 21)))] ([], []) (.leaf (.atom (.var 22))) 1 <|
      .calc (.load 5 (.tmp 46)) 5 [(46, .leaf (.atom (.var 22)))] ([], []) (.leaf (.atom (.var 23))) 1 <|
      .calc (.binOp .add 5 (.tmp 41) (.tmp 47) 5) 5 [(41, .leaf (.atom (.var 19))), (47, .leaf (.atom (.var 23)))] ([], []) (.leaf (.atom (.var 24))) 1 <|
      .boundx 16 7 <|
      .sti [.rest 11] 0 16 1 1 [.one (.var 24)] <|
      .calc (.binOp .quo 3 (.tmp 50) (.const (.int .i64 2)) 3) 3 [(50, .leaf (.atom (.var 9)))] ([], []) (.leaf (.atom (.var 26))) 1 <|
      .calc (.binOp .add 3 (.tmp 23) (.const (.int .i64 1)) 3) 3 [(23, .leaf (.atom (.var 10)))] ([], []) (.leaf (.atom (.var 27))) 1 <|
      .again 0 [.atom (.var 26), .atom (.var 27), .agg [.rest 25]]) (.leaf (.atom (.const (.bool false)))) 0 <|
    .calc (.binOp .quo 3 (.tmp 50) (.const (.int .i64 2)) 3) 3 [(50, .leaf (.atom (.var 9)))] ([], []) (.leaf (.atom (.var 13))) 1 <|
    .calc (.binOp .add 3 (.tmp 23) (.const (.int .i64 1)) 3) 3 [(23, .leaf (.atom (.var 10)))] ([], []) (.leaf (.atom (.var 14))) 1 <|
    .again 0 [.atom (.var 13), .atom (.var 14), .agg [.rest 11]]) (.leaf (.atom (.const (.bool false)))) 0 <|
  .ret ([], [⟨7, 11, 5, 1⟩]) (.leaf (.atom (.var 7)))
theorem c_worth11 : compF Try.prog Try.f24 o_worth11 (Try.f24.body.getD .skip) (symIn [.atom (.var 0), .atom (.var 1), .atom (.var 2)] Try.f24.ntmps 3) = some t_worth11 := by kernel_rfl
theorem g_worth11 : goodC Try.prog o_worth11.ords (Try.f24.body.getD .skip) = true := by kernel_rfl
def tb_worth11 : FuncId × Trans := (24, tWorth)
set_option maxRecDepth 100000 in
theorem aw_worth11 : ∀ zs Q, tb_worth11.2 zs Q → bindLs 0 [.atom (.var 0), .atom (.var 1), .atom (.var 2)] zs fun ae => bif Nat.beq ae.length 3 then AWp Try.prog tcI Q t_worth11 [] ae else False := by
  intro zs Q h
  replace h : tWorth zs Q := h
  unfold tWorth at h
  split at h
  case h_2 => exact h.elim
  rename_i i t s
  obtain ⟨⟨hi, hi2, h1, h2, h3, h4⟩, h⟩ := h
  have hr0 : 0 ≤ (8 * s + t - 1) / t ∧ (8 * s + t - 1) / t ≤ 512 := ⟨Int.ediv_nonneg (by omega) (by omega), Int.ediv_le_of_le_mul (by omega) (by omega)⟩
  have hr1 : 1 ≤ (8 * s + t - 1) / t := by rw [Int.le_ediv_iff_mul_le (by omega)]; omega
  have hap : (8 * s + t - 1) / t = (apN t s : Int) := by unfold apN; omega
  have mr : 1 ≤ t ∧ t ≤ 4 ∧ 1 ≤ s ∧ s ≤ 64 := ⟨h1, h2, h3, h4⟩
  repeat ((conv => whnf) <;> first | with_reducible first | refine wI (by omega) ?_ | refine wB (by omega) ?_ | refine wR (by omega) ?_ | refine wQ (by omega) ?_ | refine And.intro rfl ?_ | rfl | refine And.intro ‹_› ?_ | refine cTe ‹_› ?_ | refine cFe ‹_› ?_ | refine cN (cTe ‹_› ?_) | refine cN (cFe ‹_› ?_) | refine cTe rfl ?_ | refine cEq ‹_› ?_ | refine cTt ?_ | refine cNt ?_ | refine cF (Eq.refl false) ?_ | refine cN (cF (Eq.refl false) ?_) | refine cTd (by omega) ?_ | refine cFd (by omega) ?_ | refine cN (cTd (by omega) ?_) | refine cN (cFd (by omega) ?_) | refine And.intro (fun hh : Option.isSome none = true => by cases hh) ?_ | refine And.intro (by omega) ?_ | refine And.intro (Eq.refl true) ?_ | refine And.intro (Eq.refl (1 : Nat)) ?_)
  rw [hap]
  generalize apN t s = ap at *
  obtain ⟨T, rfl⟩ := Int.eq_ofNat_of_zero_le (show 0 ≤ t by omega)
  obtain ⟨I, rfl⟩ := Int.eq_ofNat_of_zero_le hi
  have m1 : ap * T ≤ 512 * 4 := Nat.mul_le_mul (by omega) (by omega)
  have m1' := Int.natCast_mul ap T
  repeat ((conv => whnf) <;> first | with_reducible first | refine wI (by omega) ?_ | refine wB (by omega) ?_ | refine wR (by omega) ?_ | refine wQ (by omega) ?_ | refine And.intro rfl ?_ | rfl | refine And.intro ‹_› ?_ | refine cTe ‹_› ?_ | refine cFe ‹_› ?_ | refine cN (cTe ‹_› ?_) | refine cN (cFe ‹_› ?_) | refine cTe rfl ?_ | refine cEq ‹_› ?_ | refine cTt ?_ | refine cNt ?_ | refine cF (Eq.refl false) ?_ | refine cN (cF (Eq.refl false) ?_) | refine cTd (by omega) ?_ | refine cFd (by omega) ?_ | refine cN (cTd (by omega) ?_) | refine cN (cFd (by omega) ?_) | refine And.intro (fun hh : Option.isSome none = true => by cases hh) ?_ | refine And.intro (by omega) ?_ | refine And.intro (Eq.refl true) ?_ | refine And.intro (Eq.refl (1 : Nat)) ?_)
  refine ⟨Nat, fun j zs => j ≤ T ∧ zs = [.int .i64 ((I / 2 ^ j : Nat) : Int), .int .i64 (j : Int), .ints .u8 (woB ap (ap * T / 8 + 1) I j)], fun j => T - j, 0, ?_, ?_⟩
  · (conv => whnf)
    exact ⟨_, Subs.refl' _, Nat.zero_le _, zs3c (by rw [Nat.pow_zero, Nat.div_one]) rfl (by show List.replicate _ _ = List.replicate _ _; congr 1)⟩
  rintro j _ ⟨hj, rfl⟩
  have hnx : I / 2 ^ (j + 1) = I / 2 ^ j / 2 := by rw [Nat.pow_succ, Nat.div_div_eq_div_mul]
  have hle : I / 2 ^ j ≤ I := Nat.div_le_self _ _
  unfold I64 at hi2
  by_cases hlt : j < T
  · have hs := woB_s ap (ap * T / 8 + 1) I j
    obtain ⟨k1, k2⟩ := woB_ok (ap := ap) (n := ap * T / 8 + 1) (i := I) (t := T) (by omega) (by omega) j (by omega)
    have k3 := worN_lt (ap := ap) (by omega) I j
    have k4 := woB_len ap (ap * T / 8 + 1) I j
    have m2 : ap * j ≤ ap * T := Nat.mul_le_mul_left _ (by omega)
    have m2' := Int.natCast_mul ap j
    have hM : ((ap : Int) * (j : Int)).toNat = ap * j := by omega
    have k5 := byte_room (m := ap * j) k1 (by omega) (by rw [k2]; exact_mod_cast k3)
    have pl : (pwB ((ap : Int) * (j : Int)).toNat).length = ap * j / 8 + 1 := by rw [hM, pwB_len]
    generalize I / 2 ^ j = w at *
    generalize woB ap (ap * T / 8 + 1) I j = L at *
    by_cases hb : w % 2 = 1
    · rw [if_pos hb] at hs
      have hb2 : (w : Int) % 2 = 1 := by omega
      have g1 : L.getD (0 + ((((pwB ((ap : Int) * (j : Int)).toNat).length : Int) - 1).toNat) * 1) 0 = L.getD (ap * j / 8) 0 := by congr 1; omega
      have g2 : (pwB ((ap : Int) * (j : Int)).toNat).getD ((((pwB ((ap : Int) * (j : Int)).toNat).length : Int) - 1).toNat) 0 = (pw8 (ap * j) : Int) := by rw [pwB_getD, hM, if_pos (by rw [hM] at pl; omega)]
      repeat ((conv => whnf) <;> first | with_reducible first | refine wI (by omega) ?_ | refine wB (by omega) ?_ | refine wR (by omega) ?_ | refine wQ (by omega) ?_ | refine And.intro rfl ?_ | rfl | refine And.intro ‹_› ?_ | refine cTe ‹_› ?_ | refine cFe ‹_› ?_ | refine cN (cTe ‹_› ?_) | refine cN (cFe ‹_› ?_) | refine cTe rfl ?_ | refine cEq ‹_› ?_ | refine cTt ?_ | refine cNt ?_ | refine cF (Eq.refl false) ?_ | refine cN (cF (Eq.refl false) ?_) | refine cTd (by omega) ?_ | refine cFd (by omega) ?_ | refine cN (cTd (by omega) ?_) | refine cN (cFd (by omega) ?_) | refine And.intro (fun hh : Option.isSome none = true => by cases hh) ?_ | refine And.intro (by omega) ?_ | refine And.intro (Eq.refl true) ?_ | refine And.intro (Eq.refl (1 : Nat)) ?_)
      (conv => whnf)
      refine ⟨_, Subs.refl' _, j + 1, ⟨by omega, zs3c (by rw [hnx]; omega) (by omega) ?_⟩, by show T - (j + 1) < T - j; omega⟩
      rw [hs, g1, g2, show 0 + ((((pwB ((ap : Int) * (j : Int)).toNat).length : Int) - 1).toNat) * 1 = ap * j / 8 by omega]
    · rw [if_neg hb] at hs
      repeat ((conv => whnf) <;> first | with_reducible first | refine wI (by omega) ?_ | refine wB (by omega) ?_ | refine wR (by omega) ?_ | refine wQ (by omega) ?_ | refine And.intro rfl ?_ | rfl | refine And.intro ‹_› ?_ | refine cTe ‹_› ?_ | refine cFe ‹_› ?_ | refine cN (cTe ‹_› ?_) | refine cN (cFe ‹_› ?_) | refine cTe rfl ?_ | refine cEq ‹_› ?_ | refine cTt ?_ | refine cNt ?_ | refine cF (Eq.refl false) ?_ | refine cN (cF (Eq.refl false) ?_) | refine cTd (by omega) ?_ | refine cFd (by omega) ?_ | refine cN (cTd (by omega) ?_) | refine cN (cFd (by omega) ?_) | refine And.intro (fun hh : Option.isSome none = true => by cases hh) ?_ | refine And.intro (by omega) ?_ | refine And.intro (Eq.refl true) ?_ | refine And.intro (Eq.refl (1 : Nat)) ?_)
      (conv => whnf)
      exact ⟨_, Subs.refl' _, j + 1, ⟨by omega, zs3c (by rw [hnx]; omega) (by omega) hs.symm⟩, by show T - (j + 1) < T - j; omega⟩
  · obtain rfl : j = T := by omega
    repeat ((conv => whnf) <;> first | with_reducible first | refine wI (by omega) ?_ | refine wB (by omega) ?_ | refine wR (by omega) ?_ | refine wQ (by omega) ?_ | refine And.intro rfl ?_ | rfl | refine And.intro ‹_› ?_ | refine cTe ‹_› ?_ | refine cFe ‹_› ?_ | refine cN (cTe ‹_› ?_) | refine cN (cFe ‹_› ?_) | refine cTe rfl ?_ | refine cEq ‹_› ?_ | refine cTt ?_ | refine cNt ?_ | refine cF (Eq.refl false) ?_ | refine cN (cF (Eq.refl false) ?_) | refine cTd (by omega) ?_ | refine cFd (by omega) ?_ | refine cN (cTd (by omega) ?_) | refine cN (cFd (by omega) ?_) | refine And.intro (fun hh : Option.isSome none = true => by cases hh) ?_ | refine And.intro (by omega) ?_ | refine And.intro (Eq.refl true) ?_ | refine And.intro (Eq.refl (1 : Nat)) ?_)
    (conv => whnf)
    exact h
theorem tb_worth11_ok : Con Try.prog tb_worth11.1 tb_worth11.2 := con_tree tcI_ok o_worth11 [.atom (.var 0), .atom (.var 1), .atom (.var 2)] 3 Try.func24 rfl c_worth11 aw_worth11 g_worth11
end Go.Proofs.Ytamgmkeoaaaliaa
