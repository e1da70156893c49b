/- joined: Refc Refd Lwa -/
import Derived.Test.YtdpongijmmdnoaaJ8
import Derived.Laws.Small
set_option linter.unusedSimpArgs false
set_option linter.unusedVariables false
/- the document's answer: of bytes, bytes of, the same, over trees. WRITTEN BY gen_refc.py -/
namespace Go.Proofs.Ytdpongijmmdnoaa
open Go.RowKit FdP FdP.Ch

theorem tlF : Try.prog.underlying 47 = some (.slice 5) ∧ tyN Try.prog 5 = some 1 ∧ tyAgg Try.prog 5 = some false := by refine ⟨?_, ?_, ?_⟩ <;> kernel_rfl
theorem tlS : tySlc Try.prog 47 = some 5 := by unfold tySlc; rw [tlF.1]
theorem tlU : Try.prog.underlying 5 = some (.int .u8) ∧ Try.prog.underlying 3 = some (.int .i64) := by refine ⟨?_, ?_⟩ <;> kernel_rfl
def pairs : List Int → List Int
 | x :: y :: l => (x + y * 268435456) :: pairs l
 | _ => []
theorem pairs_val : ∀ l : List Int, l.length % 2 = 0 → val (pairs l) = v28 l
 | [], _ => rfl
 | [_], h => by simp at h
 | x :: y :: l, h => by
  have ih := pairs_val l (by simp at h; omega)
  simp only [pairs, val, v28, ih]; omega
theorem pairs_len : ∀ l : List Int, (pairs l).length = l.length / 2
 | [] => rfl
 | [_] => by simp [pairs]
 | x :: y :: l => by simp only [pairs, List.length_cons, pairs_len l]; omega
theorem pairs_get : ∀ (l : List Int) (i : Nat), 2 * i + 1 < l.length → (pairs l).getD i 0 = l.getD (2 * i) 0 + l.getD (2 * i + 1) 0 * 268435456
 | [], _, h => by simp at h
 | [_], _, h => by simp at h
 | x :: y :: l, 0, _ => by simp [pairs]
 | x :: y :: l, i + 1, h => by
  have ih := pairs_get l i (by simp at h; omega)
  rw [show 2 * (i + 1) + 1 = 2 * i + 1 + 1 + 1 by omega, show 2 * (i + 1) = 2 * i + 1 + 1 by omega]
  simp only [pairs, List.getD_cons_succ, ih]
theorem pairs_bd : ∀ l : List Int, Dg l → ∀ x ∈ pairs l, 0 ≤ x ∧ x < 72057594037927936
 | [], _, x, hx => by simp [pairs] at hx
 | [_], _, x, hx => by simp [pairs] at hx
 | a :: b :: l, h, x, hx => by
  simp only [pairs, List.mem_cons] at hx
  rcases hx with rfl | hx
  ·have h1 := h a (by simp); have h2 := h b (by simp); omega
  ·exact pairs_bd l (fun y hy => h y (by simp [hy])) x hx
theorem dig_val8 (l : List Int) (hl : l.length = 8) (h : ∀ x ∈ l, 0 ≤ x ∧ x < 72057594037927936) : dig (val l) = l := by
 match l, hl with
 | [l0, l1, l2, l3, l4, l5, l6, l7], _ => exact dig_val _ _ _ _ _ _ _ _ h
theorem pairs_dgs (a : F) : pairs (dgs a) = dig a.val := by
 have h := dig_val8 (pairs (dgs a)) (by rw [pairs_len, dgs_len]) (pairs_bd _ (dgs_dg a))
 rw [pairs_val _ (by rw [dgs_len]), v28_dgs] at h
 exact h.symm

theorem bval_bd {b : List Int} (h : By b) : 0 ≤ bval b ∧ bval b < 256 ^ b.length := by
 induction b with
 | nil => simp [bval]
 | cons x b ih =>
  have h1 := h x (by simp)
  have h2 := ih fun y hy => h y (by simp [hy])
  simp only [bval, List.length_cons, Int.pow_succ]
  generalize (256 : Int) ^ b.length = q at *
  omega
theorem By.take {b : List Int} (h : By b) (k : Nat) : By (b.take k) := fun x hx => h x (List.mem_of_mem_take hx)
theorem By.drop {b : List Int} (h : By b) (k : Nat) : By (b.drop k) := fun x hx => h x (List.mem_of_mem_drop hx)
theorem bval_head (b : List Int) (j n : Nat) (hj : j + n < b.length) : bval ((b.drop j).take (n + 1)) = b.getD j 0 + 256 * bval ((b.drop (j + 1)).take n) := by
 have : b.drop j = b.getD j 0 :: b.drop (j + 1) := by
  rw [List.drop_eq_getElem_cons (by omega)]
  simp [List.getD, show j < b.length by omega]
 rw [this, List.take_succ_cons, bval]

structure Od (b : List Int) (i : Nat) (l : List Int) : Prop where
 len : l.length = 16
 val : v28 (l.take (2 * i)) = bval (b.take (7 * i))
 bd : ∀ j, 0 ≤ l.getD j 0 ∧ l.getD j 0 ≤ 268435456
theorem Od.start (b : List Int) : Od b 0 (List.replicate 16 0) := by
 refine ⟨rfl, by simp [v28, bval], fun j => ?_⟩
 have : (List.replicate 16 (0 : Int)).getD j 0 = 0 := by
  simp only [List.getD, List.getElem?_replicate]
  split <;> rfl
 rw [this]; omega
theorem p256 {c m : Nat} (h : c ≤ m) : (256 : Int) ^ c ≤ 256 ^ m := by
 obtain ⟨d, rfl⟩ := Nat.exists_eq_add_of_le h
 rw [Int.pow_add]
 have h1 : (0 : Int) < 256 ^ c := Int.pow_pos (by omega)
 have h2 : (0 : Int) < 256 ^ d := Int.pow_pos (by omega)
 have := Int.mul_le_mul_of_nonneg_left (show (1 : Int) ≤ 256 ^ d by omega) (show (0 : Int) ≤ 256 ^ c by omega)
 omega
theorem Od.step {b l : List Int} {i : Nat} (h : Od b i l) (lb : b.length = 56) (yb : By b) (hi : i < 8) {n : Int} (hn : n = bval ((b.drop (7 * i)).take 7)) :
 Od b (i + 1) ((l.set (2 * i) (n % 268435456)).set (2 * i + 1) (n / 268435456)) := by
 have hl := h.len
 have hb := bval_bd ((yb.drop (7 * i)).take 7)
 have l7 : ((b.drop (7 * i)).take 7).length = 7 := by simp; omega
 rw [l7, ← hn] at hb
 refine ⟨by simp [hl], ?_, fun j => ?_⟩
 ·have e1 : ((l.set (2 * i) (n % 268435456)).set (2 * i + 1) (n / 268435456)).getD (2 * i) 0 = n % 268435456 := by rw [getD_set_nee (by omega), getD_set_eq (by omega)]
  have e2 : ((l.set (2 * i) (n % 268435456)).set (2 * i + 1) (n / 268435456)).getD (2 * i + 1) 0 = n / 268435456 := by rw [getD_set_eq (by simp; omega)]
  have e0 : ((l.set (2 * i) (n % 268435456)).set (2 * i + 1) (n / 268435456)).take (2 * i) = l.take (2 * i) := by rw [List.take_set_of_le (by omega), List.take_set_of_le (by omega)]
  rw [show 2 * (i + 1) = 2 * i + 1 + 1 by omega, v28_take, v28_take, e0, e1, e2, h.val]
  have e3 : b.take (7 * (i + 1)) = b.take (7 * i) ++ (b.drop (7 * i)).take 7 := by rw [show 7 * (i + 1) = 7 * i + 7 by omega, List.take_add]
  rw [e3, bval_app, ← hn]
  have e4 : (b.take (7 * i)).length = 7 * i := by simp; omega
  rw [e4, pow56, show 2 * i + 1 = 2 * i + 1 by rfl, Int.pow_succ]
  have e5 : (268435456 : Int) ^ (2 * i) = 72057594037927936 ^ i := by rw [Int.pow_mul]; rfl
  rw [e5]
  generalize bval (b.take (7 * i)) = u
  generalize (72057594037927936 : Int) ^ i = s
  have e6 := Int.emod_add_mul_ediv n 268435456
  generalize n % 268435456 = p at *
  generalize n / 268435456 = q at *
  subst e6
  clear hn e1 e2 hb
  grind
 ·have hj := h.bd j
  have m1 := Int.emod_nonneg n (show (268435456 : Int) ≠ 0 by omega)
  have m2 := Int.emod_lt_of_pos n (show (0 : Int) < 268435456 by omega)
  have m3 : n / 268435456 ≤ 268435456 := by omega
  have m4 : 0 ≤ n / 268435456 := by omega
  by_cases h1 : 2 * i + 1 = j
  ·subst h1; rw [getD_set_eq (by simp; omega)]; omega
  ·rw [getD_set_nee h1]
   by_cases h2 : 2 * i = j
   ·subst h2; rw [getD_set_eq (by omega)]; omega
   ·rw [getD_set_nee h2]; exact hj
def o_rof : Orc := { ans := [(8, oB), (12, oB), (16, oV), (19, oV), (21, oV), (22, oV), (23, oV), (24, oV), (25, oV), (14, oV), (27, oV), (29, oV), (30, oV), (32, oV), (33, oV), (35, oV), (36, oV), (10, oV), (37, oV), (38, oA 16)], lps := [(0, [.slot 4 [.one], .blk 1 [.agg 16]]), (2, [.slot 5 [.one], .slot 6 [.one]])] }
def t_rof : Tree :=
 .new <|
 .new <|
 .loop [.atom (.const (.int .i64 0)), .agg [.lit [.int .i64 0, .int .i64 0, .int .i64 0, .int .i64 0, .int .i64 0, .int .i64 0, .int .i64 0, .int .i64 0, .int .i64 0, .int .i64 0, .int .i64 0, .int .i64 0, .int .i64 0, .int .i64 0, .int .i64 0, .int .i64 0]]] [.one, .agg 16] <|
 .calc2 (.binOp .lss 3 (.tmp 7) (.const (.int .i64 8)) 3) 4 [(7, qv 1)] ([], []) qT 0 (
 .loop [.atom (.const (.int .i64 0)), .atom (.const (.int .i64 6))] [.one, .one] <|
 .calc2 (.binOp .geq 3 (.tmp 11) (.const (.int .i64 0)) 3) 4 [(11, qv 4)] ([], []) qT 0 (
 .calc (.binOp .mul 3 (.tmp 15) (.const (.int .i64 256)) 3) 3 [(15, qv 3)] ([], []) (qv 5) 1 <|
 .calc (.binOp .mul 3 (.const (.int .i64 7)) (.tmp 18) 3) 3 [(18, qv 1)] ([], []) (qv 6) 1 <|
 .calc (.binOp .add 3 (.tmp 19) (.tmp 20) 3) 3 [(19, qv 6), (20, qv 4)] ([], []) (qv 7) 1 <|
 .calc (.indexAddr 47 (.tmp 17) (.tmp 21)) 0 [(17, qv 0), (21, qv 7)] ([], []) (qv 8) 1 <|
 .calc (.load 5 (.tmp 22)) 5 [(22, qv 8)] ([], []) (qv 9) 1 <|
 .calc (.convert 5 3 (.tmp 23)) 3 [(23, qv 9)] ([], []) (qv 10) 1 <|
 .calc (.binOp .add 3 (.tmp 16) (.tmp 24) 3) 3 [(16, qv 5), (24, qv 10)] ([], []) (qv 11) 1 <|
 .calc (.binOp .sub 3 (.tmp 13) (.const (.int .i64 1)) 3) 3 [(13, qv 4)] ([], []) (qv 12) 1 <|
 .again 1 [.atom (.var 11), .atom (.var 12)]) qF 0 <|
 .calc (.binOp .mul 3 (.const (.int .i64 2)) (.tmp 26) 3) 3 [(26, qv 1)] ([], []) (qv 5) 1 <|
 .calc (.binOp .rem 3 (.tmp 28) (.const (.int .i64 268435456)) 3) 3 [(28, qv 3)] ([], []) (qv 6) 1 <|
 .bound 5 16 <|
 .sti [.whole 2 16] 0 5 1 1 [.one (.var 6)] <|
 .calc (.binOp .mul 3 (.const (.int .i64 2)) (.tmp 31) 3) 3 [(31, qv 1)] ([], []) (qv 8) 1 <|
 .calc (.binOp .add 3 (.tmp 32) (.const (.int .i64 1)) 3) 3 [(32, qv 8)] ([], []) (qv 9) 1 <|
 .calc (.binOp .quo 3 (.tmp 34) (.const (.int .i64 268435456)) 3) 3 [(34, qv 3)] ([], []) (qv 10) 1 <|
 .bound 9 16 <|
 .sti [.whole 7 16] 0 9 1 1 [.one (.var 10)] <|
 .calc (.binOp .add 3 (.tmp 9) (.const (.int .i64 1)) 3) 3 [(9, qv 1)] ([], []) (qv 12) 1 <|
 .again 0 [.atom (.var 12), .agg [.whole 11 16]]) qF 0 <|
 .call 46 [.agg [.whole 2 16]] ([], []) (.leaf (.agg [.whole 3 16])) 1 [] <|
 .ret ([], []) (.leaf (.agg [.whole 3 16]))
theorem c_rof : compF Try.prog Try.f31 o_rof (Try.f31.body.getD .skip) (symIn [.atom (.var 0)] Try.f31.ntmps 1) = some t_rof := by kernel_rfl

theorem Rd.kept {w W : World} {g off : Nat} {b : List Int} (h : Rd w g off b) (hb : Below w.heap.size w W) : Rd W g off b := h.below hb
theorem rof_c (g off cap : Nat) (b : List Int) (lb : b.length = 56) (yb : By b) (w : World) (hr : Rd w g off b) : Calls Try.prog 31 #[.slice (some ⟨g, off, none⟩) 56 cap] w (OutV (FG (z (bval b))) w) := by
 have Hr := hide hr; clear hr
 refine calls_tree o_rof [.atom (.var 0)] [.slice (some ⟨g, off, none⟩) 56 cap] Try.func31 rfl c_rof rfl (by intro x hx; simp at hx; subst hx; exact ⟨by simp, rfl⟩) ?_
 refine tw_new fun _ => tw_new fun _ => ?_
 refine tw_countI 8 (fun i vs => ∃ l, vs = [.int .i64 (i : Int), AG (is l)] ∧ Od b i l) ⟨_, rfl, Od.start b⟩ fun i vs p hi _ hI hp => ?_
 conv => enter [6]; dsimp only [List.cons_append, List.nil_append]
 obtain ⟨l, rfl, hl⟩ := hI
 have ll := hl.len
 refine tw_cmp _ rfl rfl (bin_lss _ _ _ _) (fun ht => ?_) (fun hf => ?_)
 ·have hi' : i < 8 := by have := of_decide_eq_true ht; omega
  refine tw_count 7 (fun c => [.int .i64 (bval ((b.drop (7 * i + 7 - c)).take c)), .int .i64 (6 - (c : Int))]) (by simp [bval]; exact ⟨rfl, rfl⟩) fun c q hc _ hq => ?_
  conv => enter [6]; dsimp only [List.cons_append, List.nil_append]
  have l7 : ((b.drop (7 * i + 7 - c)).take c).length = c := by simp; omega
  have hb := bval_bd ((yb.drop (7 * i + 7 - c)).take c)
  rw [l7] at hb
  have h56 : (256 : Int) ^ c ≤ 72057594037927936 := p256 (m := 7) hc
  generalize hn : bval ((b.drop (7 * i + 7 - c)).take c) = n at hb
  refine tw_cmp _ rfl rfl (bin_geq _ _ _ _) (fun ht => ?_) (fun hf => ?_)
  ·have hc' : c < 7 := by have := of_decide_eq_true ht; omega
   have h48 : (256 : Int) ^ c ≤ 281474976710656 := p256 (m := 6) (by omega)
   have hx := by_get yb (7 * i + 6 - c) (by omega)
   have hh := bval_head b (7 * i + 6 - c) c (by omega)
   rw [show 7 * i + 6 - c + 1 = 7 * i + 7 - c by omega, hn] at hh
   refine tw_bin rfl rfl (bin_mul_in _ rfl (by omega)) rfl rfl ?_
   conv => enter [6]; dsimp only [List.cons_append, List.nil_append]
   refine tw_bin rfl rfl (bin_mul_in _ rfl (by omega)) rfl rfl ?_
   conv => enter [6]; dsimp only [List.cons_append, List.nil_append]
   refine tw_bin rfl rfl (bin_add_in _ (r := ((7 * i + 6 - c : Nat) : Int)) (by omega) (by omega)) rfl rfl ?_
   conv => enter [6]; dsimp only [List.cons_append, List.nil_append]
   refine tw_xidx rfl rfl tlS tlF.2.1 (by omega) (by omega) rfl ?_
   conv => enter [6]; dsimp only [List.cons_append, List.nil_append]
   refine tw_xload (v := .int .u8 (b.getD (7 * i + 6 - c) 0)) rfl tlF.2.2 (fun W hW => ?_) rfl rfl ?_
   ·have := (Hr.out.kept hW) (7 * i + 6 - c) (by omega)
    rw [← this]; congr 1
    simp [addr_add]
   refine tw_conv rfl tlU.1 tlU.2 (i64_in _ (by omega)) rfl ?_
   conv => enter [6]; dsimp only [List.cons_append, List.nil_append]
   refine tw_bin rfl rfl (bin_add_in _ (r := bval ((b.drop (7 * i + 6 - c)).take (c + 1))) (by omega) (by omega)) rfl rfl ?_
   conv => enter [6]; dsimp only [List.cons_append, List.nil_append]
   refine tw_bin rfl rfl (bin_sub_in _ (r := 6 - ((c + 1 : Nat) : Int)) (by omega) (by omega)) rfl rfl ?_
   conv => enter [6]; dsimp only [List.cons_append, List.nil_append]
   have hq' := hq (c + 1) (by omega) (by omega)
   rw [show 7 * i + 7 - (c + 1) = 7 * i + 6 - c by omega] at hq'
   exact tw_again rfl rfl hq'
  ·have hc' : c = 7 := by have := of_decide_eq_false hf; omega
   subst hc'
   rw [show 7 * i + 7 - 7 = 7 * i by omega] at hn
   have hs := hl.step lb yb hi' hn.symm
   refine tw_bin rfl rfl (bin_mul_in _ (r := ((2 * i : Nat) : Int)) (by omega) (by omega)) rfl rfl ?_
   conv => enter [6]; dsimp only [List.cons_append, List.nil_append]
   refine tw_bin rfl rfl (bin_rem_in _ (by omega) (by omega)) rfl rfl ?_
   conv => enter [6]; dsimp only [List.cons_append, List.nil_append]
   refine tw_bound rfl (by omega) (by omega) ?_
   refine tw_sti (2 * i) (by show 0 + intN (.int .i64 (((2 * i : Nat) : Int))) * 1 = 2 * i; simp only [intN]; omega) (by show 2 * i + 1 ≤ (is _).length; rw [is_len]; omega) (set_is (by omega)) ?_
   conv => enter [6]; dsimp only [List.cons_append, List.nil_append]
   refine tw_bin rfl rfl (bin_mul_in _ (r := ((2 * i : Nat) : Int)) (by omega) (by omega)) rfl rfl ?_
   conv => enter [6]; dsimp only [List.cons_append, List.nil_append]
   refine tw_bin rfl rfl (bin_add_in _ (r := ((2 * i + 1 : Nat) : Int)) (by omega) (by omega)) rfl rfl ?_
   conv => enter [6]; dsimp only [List.cons_append, List.nil_append]
   refine tw_bin rfl rfl (bin_quo_in _ (by omega) (by omega) (by omega)) rfl rfl ?_
   conv => enter [6]; dsimp only [List.cons_append, List.nil_append]
   refine tw_bound rfl (by omega) (by omega) ?_
   refine tw_sti (2 * i + 1) (by show 0 + intN (.int .i64 (((2 * i + 1 : Nat) : Int))) * 1 = 2 * i + 1; simp only [intN]; omega) (by show 2 * i + 1 + 1 ≤ (is _).length; rw [is_len, List.length_set]; omega) (set_is (by rw [List.length_set]; omega)) ?_
   conv => enter [6]; dsimp only [List.cons_append, List.nil_append]
   refine tw_bin rfl rfl (bin_add_in _ rfl (by omega)) rfl rfl ?_
   conv => enter [6]; dsimp only [List.cons_append, List.nil_append]
   exact tw_again rfl rfl (hp (i + 1) _ (by omega) (by omega) ⟨_, rfl, hs⟩)
 ·have hi' : i = 8 := by have := of_decide_eq_false hf; omega
  subst hi'
  have hv := hl.val
  rw [List.take_of_length_le (by omega), List.take_of_length_le (by omega)] at hv
  have h0 := bval_bd yb
  refine tw_F (z (bval b)) (fun W _ => ?_) rfl ?_
  ·have := norm_z l ll (fun j => by have := hl.bd j; omega) (by omega) W
   rw [hv] at this; exact this
  exact tw_retV rfl rfl
def o_rbytes : Orc := { ans := [(8, oB), (12, oV), (13, oV), (14, oV), (16, oV), (17, oV), (18, oV), (19, oV), (20, oV), (21, oV), (23, oB), (28, oV), (29, oV), (31, oV), (33, oV), (25, oV), (10, oV)], lps := [(0, [.slot 4 [.one], .row 3 5 1]), (2, [.slot 5 [.one], .slot 6 [.one], .row 3 5 1])] }
def t_rbytes : Tree :=
 .new <|
 .loop [.atom (.const (.int .i64 0)), .atom (.const (.slice none 0 0)), .agg []] [.one, .one, .row] <|
 .calc2 (.binOp .lss 3 (.tmp 7) (.const (.int .i64 8)) 3) 4 [(7, qv 1)] ([], []) qT 0 (
 .calc (.binOp .mul 3 (.const (.int .i64 2)) (.tmp 11) 3) 3 [(11, qv 1)] ([], []) (qv 4) 1 <|
 .bound 4 16 <|
 .ldi [.whole 0 16] 0 4 1 1 false <|
 .calc (.binOp .mul 3 (.const (.int .i64 2)) (.tmp 15) 3) 3 [(15, qv 1)] ([], []) (qv 6) 1 <|
 .calc (.binOp .add 3 (.tmp 16) (.const (.int .i64 1)) 3) 3 [(16, qv 6)] ([], []) (qv 7) 1 <|
 .bound 7 16 <|
 .ldi [.whole 0 16] 0 7 1 1 false <|
 .calc (.binOp .mul 3 (.tmp 19) (.const (.int .i64 268435456)) 3) 3 [(19, qv 8)] ([], []) (qv 9) 1 <|
 .calc (.binOp .add 3 (.tmp 14) (.tmp 20) 3) 3 [(14, qv 5), (20, qv 9)] ([], []) (qv 10) 1 <|
 .loop [.atom (.var 10), .atom (.const (.int .i64 0)), .atom (.var 2), .agg [.rest 3]] [.one, .one, .one, .row] <|
 .calc2 (.binOp .lss 3 (.tmp 22) (.const (.int .i64 7)) 3) 4 [(22, qv 12)] ([], []) qT 0 (
 .calc (.binOp .rem 3 (.tmp 27) (.const (.int .i64 256)) 3) 3 [(27, qv 11)] ([], []) (qv 15) 1 <|
 .calc (.convert 3 5 (.tmp 28)) 5 [(28, qv 15)] ([], []) (qv 16) 1 <|
 .new <|
 .app (some 14) [.one (.var 16)] 1 <|
 .calc (.binOp .quo 3 (.tmp 32) (.const (.int .i64 256)) 3) 3 [(32, qv 11)] ([], []) (qv 19) 1 <|
 .calc (.binOp .add 3 (.tmp 24) (.const (.int .i64 1)) 3) 3 [(24, qv 12)] ([], []) (qv 20) 1 <|
 .again 1 [.atom (.var 19), .atom (.var 20), .atom (.var 17), .agg [.rest 18]]) qF 0 <|
 .calc (.binOp .add 3 (.tmp 9) (.const (.int .i64 1)) 3) 3 [(9, qv 1)] ([], []) (qv 15) 1 <|
 .again 0 [.atom (.var 15), .atom (.var 13), .agg [.rest 14]]) qF 0 <|
 .ret ([([.whole 0 16], 31)], [⟨2, 3, 5, 1⟩]) (qv 2)
theorem c_rbytes : compF Try.prog Try.f42 o_rbytes (Try.f42.body.getD .skip) (symIn [.agg [.whole 0 16]] Try.f42.ntmps 1) = some t_rbytes := by kernel_rfl

def OutB (xs : List Int) (W : World) (e : Ending) (w' : World) : Prop := ∃ v, e = .returned v ∧ Sl W w' v xs ∧ Below W.heap.size W w'
theorem rawX_step (x : Int) (k : Nat) : rawX x (k + 1) = rawX x k ++ [x / 2 ^ (8 * k) % 256] := rfl
theorem pow8 (x : Int) (k : Nat) : x / 2 ^ (8 * k) / 256 = x / 2 ^ (8 * (k + 1)) := by
 rw [Int.ediv_ediv_of_nonneg (Int.pow_nonneg (by omega)), show 8 * (k + 1) = 8 * k + 8 by omega, Int.pow_add]; rfl
theorem u8_in (x : Int) (h : 0 ≤ x ∧ x < 256) : IntKind.u8.wrap x = x := by
 simp only [IntKind.wrap, IntKind.bits, IntKind.signed]
 simp only [Bool.false_and, Bool.false_eq_true, if_false]
 omega
def OutO (xs : List Int) (W : World) (e : Ending) (w' : World) : Prop := ∃ v, e = .returned v ∧ So W w' v xs ∧ Below W.heap.size W w'
theorem rbytes_go (l : List Int) (la : l.length = 16) (hdd : Dg l) (w : World) : Calls Try.prog 42 #[AG (is l)] w (OutO (rawF (pairs l)) w) := by
 refine calls_tree o_rbytes [.agg [.whole 0 16]] [AG (is l)] Try.func42 rfl c_rbytes rfl (by intro x hx; simp at hx; subst hx; intro s hs; simp at hs; subst hs; exact ⟨_, rfl, by rw [is_len, la], is_one _⟩) ?_
 refine tw_new fun _ => ?_
 have hpb := pairs_bd _ hdd
 have hpl : (pairs l).length = 8 := by rw [pairs_len, la]
 have hpg := pairs_get l
 refine tw_countI 8 (fun i vs => ∃ v, vs = [.int .i64 (i : Int), v, AG (ys (rawO (pairs l) i))] ∧ v.oneCell' = true) ⟨_, rfl, rfl⟩ fun i vs p hi _ hI hp => ?_
 conv => enter [6]; dsimp only [List.cons_append, List.nil_append]
 obtain ⟨v, rfl, hv⟩ := hI
 refine tw_cmp _ rfl rfl (bin_lss _ _ _ _) (fun ht => ?_) (fun hf => ?_)
 ·have hi' : i < 8 := by have := of_decide_eq_true ht; omega
  have g1 := dg_get hdd (2 * i) (by omega)
  have g2 := dg_get hdd (2 * i + 1) (by omega)
  have g3 := hpg i (by omega)
  generalize hx : (pairs l).getD i 0 = x at *
  refine tw_bin rfl rfl (bin_mul_in _ (r := ((2 * i : Nat) : Int)) (by omega) (by omega)) rfl rfl ?_
  conv => enter [6]; dsimp only [List.cons_append, List.nil_append]
  refine tw_bound rfl (by omega) (by omega) ?_
  refine tw_ldi (2 * i) (by show 0 + intN (.int .i64 (((2 * i : Nat) : Int))) * 1 = 2 * i; simp only [intN]; omega) (get_is (by omega)) ?_
  conv => enter [6]; dsimp only [List.cons_append, List.nil_append]
  refine tw_bin rfl rfl (bin_mul_in _ (r := ((2 * i : Nat) : Int)) (by omega) (by omega)) rfl rfl ?_
  conv => enter [6]; dsimp only [List.cons_append, List.nil_append]
  refine tw_bin rfl rfl (bin_add_in _ (r := ((2 * i + 1 : Nat) : Int)) (by omega) (by omega)) rfl rfl ?_
  conv => enter [6]; dsimp only [List.cons_append, List.nil_append]
  refine tw_bound rfl (by omega) (by omega) ?_
  refine tw_ldi (2 * i + 1) (by show 0 + intN (.int .i64 (((2 * i + 1 : Nat) : Int))) * 1 = 2 * i + 1; simp only [intN]; omega) (get_is (by omega)) ?_
  conv => enter [6]; dsimp only [List.cons_append, List.nil_append]
  refine tw_bin rfl rfl (bin_mul_in _ rfl (by omega)) rfl rfl ?_
  conv => enter [6]; dsimp only [List.cons_append, List.nil_append]
  refine tw_bin rfl rfl (bin_add_in _ g3.symm (by omega)) rfl rfl ?_
  conv => enter [6]; dsimp only [List.cons_append, List.nil_append]
  refine tw_countI 7 (fun k vs => ∃ v, vs = [.int .i64 (x / 2 ^ (8 * k)), .int .i64 (k : Int), v, AG (ys (rawO (pairs l) i ++ rawX x k))] ∧ v.oneCell' = true) ⟨v, by simp [rawX]; exact ⟨rfl, rfl, rfl, rfl⟩, hv⟩ fun k vs q hk _ hI hq => ?_
  conv => enter [6]; dsimp only [List.cons_append, List.nil_append]
  clear hv
  obtain ⟨v, rfl, hv⟩ := hI
  have hpos : (0 : Int) < 2 ^ (8 * k) := Int.pow_pos (by omega)
  have d0 : 0 ≤ x / 2 ^ (8 * k) := Int.ediv_nonneg (by omega) (by omega)
  have d1 : x / 2 ^ (8 * k) ≤ x := Int.ediv_le_self _ (by omega)
  have d2 := pow8 x k
  have d3 := rawX_step x k
  generalize x / 2 ^ (8 * k) = y at *
  refine tw_cmp _ rfl rfl (bin_lss _ _ _ _) (fun ht => ?_) (fun hf => ?_)
  ·have hk' : k < 7 := by have := of_decide_eq_true ht; omega
   have m1 := Int.emod_nonneg y (show (256 : Int) ≠ 0 by omega)
   have m2 := Int.emod_lt_of_pos y (show (0 : Int) < 256 by omega)
   refine tw_bin rfl rfl (bin_rem_in _ (by omega) (by omega)) rfl rfl ?_
   conv => enter [6]; dsimp only [List.cons_append, List.nil_append]
   refine tw_conv rfl tlU.2 tlU.1 (u8_in _ (by omega)) rfl ?_
   conv => enter [6]; dsimp only [List.cons_append, List.nil_append]
   refine tw_new fun _ => ?_
   refine tw_app (cs := ys (rawO (pairs l) i ++ rawX x (k + 1))) (by rw [d3, ← List.append_assoc]; show ys _ ++ ys [_] = _; rw [← ys_app]) (by simp [ys]; omega) fun v' hv' => ?_
   conv => enter [6]; dsimp only [List.cons_append, List.nil_append]
   conv => enter [6]; dsimp only [List.cons_append, List.nil_append]
   refine tw_bin rfl rfl (bin_quo_in _ (by omega) (by omega) (by omega)) rfl rfl ?_
   conv => enter [6]; dsimp only [List.cons_append, List.nil_append]
   refine tw_bin rfl rfl (bin_add_in _ rfl (by omega)) rfl rfl ?_
   conv => enter [6]; dsimp only [List.cons_append, List.nil_append]
   exact tw_again rfl rfl (hq (k + 1) _ (by omega) (by omega) ⟨v', by rw [← d2]; rfl, hv'⟩)
  ·have hk' : k = 7 := by have := of_decide_eq_false hf; omega
   subst hk'
   refine tw_bin rfl rfl (bin_add_in _ rfl (by omega)) rfl rfl ?_
   conv => enter [6]; dsimp only [List.cons_append, List.nil_append]
   exact tw_again rfl rfl (hp (i + 1) _ (by omega) (by omega) ⟨v, by rw [rawO, hx]; rfl, hv⟩)
 ·have hi' : i = 8 := by have := of_decide_eq_false hf; omega
  subst hi'
  refine tw_ret fun W hW => ?_
  obtain ⟨u, cs, m, h1, h2, _, h4⟩ := hW.2.1 ⟨2, 3, 5, 1⟩ (by simp)
  have e1 : v = u := by simpa using h1
  have e2 : (ys (rawO (pairs l) 8)) = cs := by
   have h2' : AG (ys (rawO (pairs l) 8)) = .agg cs.toArray := by simpa using h2
   simpa [AG] using h2'
  subst e1; subst e2
  have hm : m = (rawO (pairs l) 8).length := by have := h4.1; simp at this; simpa using this.symm
  subst hm
  exact ⟨_, rfl, h4, hW.1.below⟩
theorem rbytes_g (l : List Int) (la : l.length = 16) (hdd : Dg l) (w : World) : Calls Try.prog 42 #[AG (is l)] w (OutB (rawF (pairs l)) w) :=
 (rbytes_go l la hdd w).mono fun e w' ⟨v, h1, h2, h3⟩ => ⟨v, h1, h2.sl (by simp), h3⟩
theorem rbytes_c (a : F) (w : World) : Calls Try.prog 42 #[FG a] w (OutB (rawF (dig a.val)) w) := by
 have := rbytes_g (dgs a) (dgs_len a) (dgs_dg a) w
 rwa [pairs_dgs] at this
end Go.Proofs.Ytdpongijmmdnoaa
/- bytes that a call makes; the statements' helpers Is, Plain; the document's p, Fits: over trees. WRITTEN BY gen_refd.py -/
namespace Go.Proofs.Ytdpongijmmdnoaa
open Go.RowKit FdP FdP.Ch

theorem raw_dig (a : F) : bval (rawF (dig a.val)) = a.val := by
 rw [rawF_law _ rfl (dig_bd _), val_dig _ (by omega) (val_lt a)]
theorem raw_inj {a b : F} (h : rawF (dig a.val) = rawF (dig b.val)) : a = b := by
 have h1 := raw_dig a
 rw [h, raw_dig] at h1
 exact Fin.ext (by omega)
theorem is_key {l : List Int} {x : F} (hE : E l x) (b : F) : decide (bytesF l = rawF (dig b.val)) = decide (x = b) := by
 rw [bytes_eq hE, decide_eq_decide]
 exact ⟨raw_inj, fun h => by rw [h]⟩

section
variable {w0 : World} {R : Ending → World → Prop} {L : List (List Value → Prop)} {env : List Value} {gs : List Nat}
theorem tw_B {f : FuncId} {args : List Leaf} {bl : Mem} {k : Tree} {m B : Nat} (xs : List Int)
 (hc : ∀ W, Mm w0 W env gs bl → Calls Try.prog f (args.map (Leaf.den env gs)).toArray W (OutB xs W))
 (hm : env.length = m) (hg : gs.length = B)
 (hk : ∀ g cap sp, TWp Try.prog w0 R k L (env ++ [.slice none xs.length cap, AG (ys xs), AG sp]) (gs ++ [g])) :
 TWp Try.prog w0 R (.call f args bl (.leaf (.atom (.slcx B 0 m))) 3 [([.rest (m + 1), .junk (m + 2)], 5)] k) L env gs := by
 subst hm; subst hg
 intro β W hW _
 refine (hc W hW).mono fun e w' ⟨v, he, ⟨g, cap, sp, hv, hg, ho⟩, hF⟩ => ?_
 refine ⟨[.slice none xs.length cap, AG (ys xs), AG sp], [g], rfl, rfl, ?_, ?_, ?_, hF, ?_, hk g cap sp _⟩
 ·rw [he, hv]; simp [SV.den, Leaf.den, Atom.den, List.getD]
 ·exact ⟨by simp, by simp⟩
 ·intro b hb s hs
  simp only [List.mem_singleton] at hb; subst hb
  simp only [List.mem_cons, List.not_mem_nil, or_false] at hs
  rcases hs with rfl | rfl
  ·exact ⟨xs.length, ys xs, by simp [AG], by simp [ys], ys_one _⟩
  ·exact ⟨sp, by simp [AG]⟩
 ·refine ⟨?_, by simp [bsA]⟩
  intro x hx
  simp only [bsA, List.zipWith_cons_cons, List.zipWith_nil_left, List.mem_singleton] at hx; subst hx
  refine ⟨hg, ?_⟩
  simpa [catS, Seg.den, cellsAt, AG, Value.cells, List.getD] using ho
theorem Mm.rd {W : World} {bl : Mem} (h : Mm w0 W env gs bl) (j g : Nat) (xs : List Int) (sp : List Value) (T : TypeId) (hb : (bsD env gs bl.1)[j]? = some (g, ys xs ++ sp, T)) : Rd W g 0 xs := (h.1.own _ (List.mem_of_getElem? hb)).2.rd
theorem Mm.sl {W : World} {bl : Mem} (h : Mm w0 W env gs bl) (j g cap : Nat) (xs : List Int) (sp : List Value) (hb : (bsD env gs bl.1)[j]? = some (g, ys xs ++ sp, 5)) : Sl w0 W (.slice (some ⟨g, 0, none⟩) xs.length cap) xs :=
 ⟨g, cap, sp, rfl, (h.1.own _ (List.mem_of_getElem? hb)).1, (h.1.own _ (List.mem_of_getElem? hb)).2⟩
end
theorem tw_truth {w : World} {L : List (List Value → Prop)} {env : List Value} {gs : List Nat} (b c : Bool) (h : b = c) : TWp Try.prog w (OutV (.bool b) w) (.ret ([], []) (.leaf (.atom (.const (.bool c))))) L env gs := by
 subst h; exact tw_retV rfl rfl
theorem sv_of {W : World} {g off cap : Nat} {xs : List Int} (h : Rd W g off xs) : Sv W (.slice (some ⟨g, off, none⟩) xs.length cap) xs := ⟨_, _, rfl, fun _ => ⟨_, _, rfl, h⟩⟩
def o_is : Orc := { ans := [(5, oV), (6, .one ⟨.leaf (.atom (.slcx 0 0 0)), 3, [([.rest 1, .junk 2], 5)]⟩), (7, oV), (8, .one ⟨.leaf (.atom (.slcx 0 0 0)), 3, [([.rest 1, .junk 2], 5)]⟩), (9, oB)], lps := [] }
def t_is : Tree :=
 .new <|
 .new <|
 .call 33 [.agg [.whole 0 8]] ([], []) (.leaf (.atom (.slcx 2 0 2))) 3 [([.rest 3, .junk 4], 5)] <|
 .call 42 [.agg [.whole 1 16]] ([], []) (.leaf (.atom (.slcx 3 0 5))) 3 [([.rest 6, .junk 7], 5)] <|
 .call2 28 [.atom (.slcx 2 0 2), .atom (.slcx 3 0 5)] ([([.whole 0 8], 27), ([.whole 1 16], 31), ([.rest 3, .junk 4], 5), ([.rest 6, .junk 7], 5)], []) qT 0 [] (
 .ret ([], []) qT) qF 0 [] <|
 .ret ([], []) qF
theorem c_is : compF Try.prog Try.f13 o_is (Try.f13.body.getD .skip) (symIn [.agg [.whole 0 8], .agg [.whole 1 16]] Try.f13.ntmps 2) = some t_is := by kernel_rfl

theorem is_c {l : List Int} {x : F} (hE : E l x) (b : F) (w : World) : Calls Try.prog 13 #[AG (us l), FG b] w (OutV (.bool (decide (x = b))) w) := by
 have ll := hE.len
 have key := is_key hE b
 refine calls_tree o_is [.agg [.whole 0 8], .agg [.whole 1 16]] [AG (us l), FG b] Try.func13 rfl c_is rfl (by intro x hx; simp at hx; rcases hx with rfl | rfl <;> intro s hs <;> simp at hs <;> subst hs <;> first | exact ⟨_, rfl, by simp [ll], us_one _⟩ | exact FG_ok _ 1 b rfl) ?_
 refine tw_new fun _ => tw_new fun _ => ?_
 refine tw_B (bytesF l) (fun W _ => bytes_any l ll hE.bd W) rfl rfl fun g1 c1 s1 => ?_
 conv => enter [6]; dsimp only [List.cons_append, List.nil_append]
 refine tw_B (rawF (dig b.val)) (fun W _ => rbytes_c b W) rfl rfl fun g2 c2 s2 => ?_
 conv => enter [6]; dsimp only [List.cons_append, List.nil_append]
 have lx : (bytesF l).length ≤ 1000000 := by simp
 generalize bytesF l = xs at *
 generalize rawF (dig b.val) = zs at *
 exact tw_bool (decide (x = b)) (fun W hW => (lawEq_any xs zs (.slice (some ⟨g1, 0, none⟩) xs.length c1) (.slice (some ⟨g2, 0, none⟩) zs.length c2) W
  (sv_of (hW.rd 2 g1 xs s1 _ rfl)) (sv_of (hW.rd 3 g2 zs s2 _ rfl)) lx).mono fun e w' ⟨h1, h2⟩ => ⟨by rw [h1, key], h2⟩) (tw_truth _ _) (tw_truth _ _)
def o_plain : Orc := { ans := [(3, oV), (4, .one ⟨.leaf (.atom (.slcx 0 0 0)), 3, [([.rest 1, .junk 2], 5)]⟩), (5, oA 16)], lps := [] }
def t_plain : Tree :=
 .new <|
 .new <|
 .call 41 [.agg [.whole 0 56]] ([], []) (.leaf (.atom (.slcx 2 0 1))) 3 [([.rest 2, .junk 3], 5)] <|
 .call 31 [.atom (.slcx 2 0 1)] ([([.whole 0 56], 23), ([.lit [.int .i64 0, .int .i64 0, .int .i64 0, .int .i64 0, .int .i64 0, .int .i64 0, .int .i64 0, .int .i64 0, .int .i64 0, .int .i64 0, .int .i64 0, .int .i64 0, .int .i64 0, .int .i64 0, .int .i64 0, .int .i64 0]], 31), ([.rest 2, .junk 3], 5)], []) (.leaf (.agg [.whole 4 16])) 1 [] <|
 .ret ([], []) (.leaf (.agg [.whole 4 16]))
theorem c_plain : compF Try.prog Try.f12 o_plain (Try.f12.body.getD .skip) (symIn [.agg [.whole 0 56]] Try.f12.ntmps 1) = some t_plain := by kernel_rfl

theorem plain_c (b : List Int) (lb : b.length = 56) (yb : By b) (w : World) : Calls Try.prog 12 #[AG (ys b)] w (OutV (FG (z (bval b))) w) := by
 refine calls_tree o_plain [.agg [.whole 0 56]] [AG (ys b)] Try.func12 rfl c_plain rfl (by intro x hx; simp at hx; subst hx; intro s hs; simp at hs; subst hs; exact ⟨_, rfl, by simp [lb], ys_one _⟩) ?_
 refine tw_new fun _ => tw_new fun _ => ?_
 refine tw_B b (fun W _ => lawBytes_any b lb W) rfl rfl fun g1 c1 s1 => ?_
 conv => enter [6]; dsimp only [List.cons_append, List.nil_append]
 refine tw_F (z (bval b)) (fun W hW => ?_) rfl ?_
 ·exact (show ∀ n : Nat, n = 56 → Calls Try.prog 31 #[.slice (some ⟨g1, 0, none⟩) n c1] W (OutV (FG (z (bval b))) W) from fun n hn => by subst hn; exact rof_c g1 0 c1 b lb yb W (hW.rd 2 g1 b s1 _ rfl)) b.length lb
 exact tw_retV rfl rfl
end Go.Proofs.Ytdpongijmmdnoaa
/- contracts of chapter 4 as steps of a tree -/
namespace Go.Proofs.Ytdpongijmmdnoaa
open Go.RowKit FdP FdP.Ch

section
variable {w0 : World} {R : Ending → World → Prop} {L : List (List Value → Prop)} {env : List Value} {gs : List Nat}
end

theorem made_c (b : List Int) (lb : b.length = 56) (yb : By b) (W : World) : Calls Try.prog 11 #[AG (ys b)] W fun e w' => ∃ l, e = .returned (.tuple #[AG (us l), .bool true]) ∧ E l (z (bval b)) ∧ Fut W w' :=
 (made_any b lb W).mono fun e w' ⟨h1, h2⟩ => ⟨_, h1, of_E b lb yb, h2⟩
theorem add_c {l m : List Int} {a b : F} (hl : E l a) (hm : E m b) (W : World) : Calls Try.prog 14 #[AG (us l), AG (us m)] W (OutE (a + b) W) := (add_e hl hm W).mono fun _ _ ⟨h1, h2⟩ => ⟨_, h1, add_E hl hm, h2⟩
theorem sub_c {l m : List Int} {a b : F} (hl : E l a) (hm : E m b) (W : World) : Calls Try.prog 16 #[AG (us l), AG (us m)] W (OutE (a - b) W) := (sub_e hl hm W).mono fun _ _ ⟨h1, h2⟩ => ⟨_, h1, sub_E hl hm, h2⟩
theorem mul_c {l m : List Int} {a b : F} (hl : E l a) (hm : E m b) (W : World) : Calls Try.prog 34 #[AG (us l), AG (us m)] W (OutE (a * b) W) := (mul_e hl hm W).mono fun _ _ ⟨h1, h2⟩ => ⟨_, h1, mul_E hl hm, h2⟩
theorem square_c {l : List Int} {a : F} (hl : E l a) (W : World) : Calls Try.prog 38 #[AG (us l)] W (OutE (a * a) W) := (square_e hl W).mono fun _ _ ⟨h1, h2⟩ => ⟨_, h1, mul_E hl hl, h2⟩
theorem neg_c {l : List Int} {a : F} (hl : E l a) (W : World) : Calls Try.prog 18 #[AG (us l)] W (OutE (-a) W) := (neg_e hl W).mono fun _ _ ⟨h1, h2⟩ => ⟨_, h1, neg_E hl, h2⟩
theorem times_c {l : List Int} {a : F} (hl : E l a) (n : Int) (h0 : -9223372036854775808 ≤ n) (h1 : n < 9223372036854775808) (W : World) : Calls Try.prog 39 #[AG (us l), .int .i64 n] W (OutE (a * z n) W) := (times_e hl n W).mono fun _ _ ⟨q1, q2⟩ => ⟨_, q1, times_E hl n h0 h1, q2⟩
theorem awake_c (W : World) : Calls Try.prog 20 #[] W (OutV (.bool true) W) := awake_any W
end Go.Proofs.Ytdpongijmmdnoaa
