/- Chapter 10: the ladder -/
import Derived.Test.YtmbapbbneapcnaaLad
import Derived.Test.YtmbapbbneapcnaaVr
import Derived.Test.YtmbapbbneapcnaaJ13
set_option linter.unusedSimpArgs false
set_option linter.unusedVariables false
namespace Go.Proofs.Ytmbapbbneapcnaa
open Go.RowKit FdP FdP.Ch
def swA (n : Int) (x y : F) : F := if n % 2 = 0 then x else y
def tSwap : Trans := fun zs Q => match zs with
  | [.int .i64 n, .el x, .el y] => Q (.tup [.el (swA n x y), .el (swA n y x)])
  | _ => False
def tPSwap : Trans := fun zs Q => match zs with
  | [.agg [.el x, .el y], .int .i64 n] => Q (.agg [.el (swA n x y), .el (swA n y x)])
  | _ => False
def tStep : Trans := fun zs Q => match zs with
  | [.el u, .agg [.el x0, .el x1], .agg [.el z0, .el z1]] => Q (.tup [.agg [.el (lstep u ⟨x0, z0, x1, z1⟩).x0, .el (lstep u ⟨x0, z0, x1, z1⟩).x1], .agg [.el (lstep u ⟨x0, z0, x1, z1⟩).z0, .el (lstep u ⟨x0, z0, x1, z1⟩).z1]])
  | _ => False
def tjA : Tab := tb_select :: []
theorem tjA_ok : tjA.OK Try.prog := tab_cons tb_select_ok <| tab_nil _
def o_fswap : Orc := { ans := [(9, .one ⟨.leaf (.agg [.whole 0 8]), 1, []⟩), (10, .one ⟨.leaf (.agg [.whole 0 8]), 1, []⟩), (11, .one ⟨.leaf (.agg [.whole 0 8]), 1, []⟩), (13, .one ⟨.leaf (.agg [.whole 0 8]), 1, []⟩), (14, .one ⟨.leaf (.agg [.whole 0 8]), 1, []⟩), (15, .one ⟨.leaf (.agg [.whole 0 8]), 1, []⟩)], lps := [], ords := [(1, [.pure 0, .quiet 1, .quiet 2, .pure 4, .quiet 5, .quiet 6, .call 3 [], .call 7 [], .last 8, .last 9])] }
def t_fswap : Tree :=
  .new <|
  .new <|
  .new <|
  .new <|
  .call 75 [.atom (.var 0), .agg [.whole 1 8], .agg [.whole 2 8]] ([], []) (.leaf (.agg [.whole 3 8])) 1 [] <|
  .call 75 [.atom (.var 0), .agg [.whole 2 8], .agg [.whole 1 8]] ([], []) (.leaf (.agg [.whole 4 8])) 1 [] <|
  .ret ([], []) (.tup [.agg [.whole 3 8], .agg [.whole 4 8]])
theorem c_fswap : compF Try.prog Try.f71 o_fswap (Try.f71.body.getD .skip) (symIn [.atom (.var 0), .agg [.whole 1 8], .agg [.whole 2 8]] Try.f71.ntmps 3) = some t_fswap := by kernel_rfl
theorem g_fswap : goodC Try.prog o_fswap.ords (Try.f71.body.getD .skip) = true := by kernel_rfl
def tb_fswap : FuncId × Trans := (71, tSwap)
set_option maxRecDepth 100000 in
theorem aw_fswap : ∀ zs Q, tb_fswap.2 zs Q → bindLs 0 [.atom (.var 0), .agg [.whole 1 8], .agg [.whole 2 8]] zs fun ae => bif Nat.beq ae.length 3 then AWp Try.prog tjA Q t_fswap [] ae else False := by
  intro zs Q h
  replace h : tSwap zs Q := h
  unfold tSwap at h
  split at h
  case h_2 => exact h.elim
  (conv => whnf)
  exact h
theorem tb_fswap_ok : Con Try.prog tb_fswap.1 tb_fswap.2 := con_tree tjA_ok o_fswap [.atom (.var 0), .agg [.whole 1 8], .agg [.whole 2 8]] 3 Try.func71 rfl c_fswap aw_fswap g_fswap
def tjB : Tab := tb_fswap :: []
theorem tjB_ok : tjB.OK Try.prog := tab_cons tb_fswap_ok <| tab_nil _
def o_lswap : Orc := { ans := [(9, .one ⟨.leaf (.atom (.var 0)), 1, []⟩), (10, .one ⟨.leaf (.agg [.whole 0 8]), 1, []⟩), (11, .one ⟨.leaf (.atom (.var 0)), 1, []⟩), (12, .one ⟨.leaf (.agg [.whole 0 8]), 1, []⟩), (13, .one ⟨.tup [.agg [.whole 0 8], .agg [.whole 1 8]], 2, []⟩), (16, .one ⟨.leaf (.agg [.whole 0 8]), 1, []⟩), (17, .one ⟨.leaf (.agg [.whole 0 8]), 1, []⟩)], lps := [] }
def t_lswap : Tree :=
  .new <|
  .new <|
  .call 71 [.atom (.var 2), .agg [.whole 0 8], .agg [.whole 1 8]] ([], []) (.tup [.agg [.whole 3 8], .agg [.whole 4 8]]) 2 [] <|
  .new <|
  .new <|
  .ret ([], []) (.leaf (.agg [.whole 3 8, .whole 4 8]))
theorem c_lswap : compF Try.prog Try.f44 o_lswap (Try.f44.body.getD .skip) (symIn [.agg [.whole 0 8, .whole 1 8], .atom (.var 2)] Try.f44.ntmps 3) = some t_lswap := by kernel_rfl
theorem g_lswap : goodC Try.prog o_lswap.ords (Try.f44.body.getD .skip) = true := by kernel_rfl
def tb_lswap : FuncId × Trans := (44, tPSwap)
set_option maxRecDepth 100000 in
theorem aw_lswap : ∀ zs Q, tb_lswap.2 zs Q → bindLs 0 [.agg [.whole 0 8, .whole 1 8], .atom (.var 2)] zs fun ae => bif Nat.beq ae.length 3 then AWp Try.prog tjB Q t_lswap [] ae else False := by
  intro zs Q h
  replace h : tPSwap zs Q := h
  unfold tPSwap at h
  split at h
  case h_2 => exact h.elim
  (conv => whnf)
  exact h
theorem tb_lswap_ok : Con Try.prog tb_lswap.1 tb_lswap.2 := con_tree tjB_ok o_lswap [.agg [.whole 0 8, .whole 1 8], .atom (.var 2)] 3 Try.func44 rfl c_lswap aw_lswap g_lswap
def tjC : Tab := tb_add :: tb_sub :: tb_mul :: tb_square :: tb_times :: []
theorem tjC_ok : tjC.OK Try.prog := tab_cons tb_add_ok <| tab_cons tb_sub_ok <| tab_cons tb_mul_ok <| tab_cons tb_square_ok <| tab_cons tb_times_ok <| tab_nil _
def o_lstep : Orc := { ans := [(13, .one ⟨.leaf (.atom (.var 0)), 1, []⟩), (14, .one ⟨.leaf (.agg [.whole 0 8]), 1, []⟩), (15, .one ⟨.leaf (.atom (.var 0)), 1, []⟩), (16, .one ⟨.leaf (.agg [.whole 0 8]), 1, []⟩), (17, .one ⟨.leaf (.agg [.whole 0 8]), 1, []⟩), (18, .one ⟨.leaf (.atom (.var 0)), 1, []⟩), (19, .one ⟨.leaf (.agg [.whole 0 8]), 1, []⟩), (20, .one ⟨.leaf (.atom (.var 0)), 1, []⟩), (21, .one ⟨.leaf (.agg [.whole 0 8]), 1, []⟩), (22, .one ⟨.leaf (.agg [.whole 0 8]), 1, []⟩), (23, .one ⟨.leaf (.atom (.var 0)), 1, []⟩), (24, .one ⟨.leaf (.agg [.whole 0 8]), 1, []⟩), (25, .one ⟨.leaf (.atom (.var 0)), 1, []⟩), (26, .one ⟨.leaf (.agg [.whole 0 8]), 1, []⟩), (27, .one ⟨.leaf (.agg [.whole 0 8]), 1, []⟩), (28, .one ⟨.leaf (.agg [.whole 0 8]), 1, []⟩), (29, .one ⟨.leaf (.agg [.whole 0 8]), 1, []⟩), (30, .one ⟨.leaf (.atom (.var 0)), 1, []⟩), (31, .one ⟨.leaf (.agg [.whole 0 8]), 1, []⟩), (32, .one ⟨.leaf (.atom (.var 0)), 1, []⟩), (33, .one ⟨.leaf (.agg [.whole 0 8]), 1, []⟩), (34, .one ⟨.leaf (.agg [.whole 0 8]), 1, []⟩), (35, .one ⟨.leaf (.agg [.whole 0 8]), 1, []⟩), (36, .one ⟨.leaf (.agg [.whole 0 8]), 1, []⟩), (37, .one ⟨.leaf (.agg [.whole 0 8]), 1, []⟩), (38, .one ⟨.leaf (.agg [.whole 0 8]), 1, []⟩), (39, .one ⟨.leaf (.agg [.whole 0 8]), 1, []⟩), (40, .one ⟨.leaf (.agg [.whole 0 8]), 1, []⟩), (41, .one ⟨.leaf (.agg [.whole 0 8]), 1, []⟩), (42, .one ⟨.leaf (.agg [.whole 0 8]), 1, []⟩), (43, .one ⟨.leaf (.agg [.whole 0 8]), 1, []⟩), (44, .one ⟨.leaf (.agg [.whole 0 8]), 1, []⟩), (45, .one ⟨.leaf (.agg [.whole 0 8]), 1, []⟩), (46, .one ⟨.leaf (.agg [.whole 0 8]), 1, []⟩), (47, .one ⟨.leaf (.agg [.whole 0 8]), 1, []⟩), (48, .one ⟨.leaf (.agg [.whole 0 8]), 1, []⟩), (49, .one ⟨.leaf (.agg [.whole 0 8]), 1, []⟩), (50, .one ⟨.leaf (.agg [.whole 0 8]), 1, []⟩), (51, .one ⟨.leaf (.agg [.whole 0 8]), 1, []⟩), (52, .one ⟨.leaf (.agg [.whole 0 8]), 1, []⟩), (53, .one ⟨.leaf (.atom (.var 0)), 1, []⟩), (54, .one ⟨.leaf (.atom (.var 0)), 1, []⟩), (55, .one ⟨.leaf (.agg [.whole 0 8]), 1, []⟩), (56, .one ⟨.leaf (.agg [.whole 0 8]), 1, []⟩), (57, .one ⟨.leaf (.agg [.whole 0 8]), 1, []⟩), (58, .one ⟨.leaf (.agg [.whole 0 8]), 1, []⟩), (59, .one ⟨.leaf (.agg [.whole 0 8]), 1, []⟩), (60, .one ⟨.leaf (.agg [.whole 0 8]), 1, []⟩), (61, .one ⟨.leaf (.agg [.whole 0 8]), 1, []⟩), (62, .one ⟨.leaf (.agg [.whole 0 8]), 1, []⟩), (63, .one ⟨.leaf (.agg [.whole 0 8]), 1, []⟩), (64, .one ⟨.leaf (.agg [.whole 0 8]), 1, []⟩), (65, .one ⟨.leaf (.atom (.var 0)), 1, []⟩), (66, .one ⟨.leaf (.atom (.var 0)), 1, []⟩), (67, .one ⟨.leaf (.agg [.whole 0 8, .whole 1 8]), 2, []⟩), (68, .one ⟨.leaf (.agg [.whole 0 8, .whole 1 8]), 2, []⟩)], lps := [], ords := [(1, [.quiet 0, .quiet 1, .quiet 2, .quiet 3, .quiet 5, .quiet 6, .quiet 7, .quiet 8, .call 4 [10, 11], .call 9 [10, 11], .make 10 [11], .make 11 [], .last 12, .last 13]), (2, [.quiet 0, .quiet 1, .quiet 2, .quiet 3, .quiet 5, .call 4 [7], .call 6 [7], .make 7 [], .last 8]), (3, [.quiet 0, .quiet 1, .quiet 2, .quiet 3, .quiet 5, .call 4 [7], .call 6 [7], .make 7 [], .last 8]), (4, [.quiet 0, .quiet 2, .call 1 [], .call 3 [], .last 4, .last 5]), (6, [.quiet 0, .quiet 1, .quiet 3, .quiet 4, .quiet 5, .call 2 [], .quiet 9, .call 6 [], .call 7 [], .call 8 [], .last 10, .last 11, .last 12]), (7, [.quiet 0, .quiet 1, .quiet 4, .quiet 5, .quiet 6, .call 2 [], .call 3 [], .quiet 10, .call 7 [], .call 8 [], .call 9 [], .last 11, .last 12, .last 13])], alls := [8] }
def t_lstep : Tree :=
  .new <|
  .new <|
  .new <|
  .new <|
  .new <|
  .call 35 [.agg [.whole 1 8], .agg [.whole 3 8]] ([], []) (.leaf (.agg [.whole 5 8])) 1 [] <|
  .call 36 [.agg [.whole 1 8], .agg [.whole 3 8]] ([], []) (.leaf (.agg [.whole 6 8])) 1 [] <|
  .new <|
  .new <|
  .call 36 [.agg [.whole 2 8], .agg [.whole 4 8]] ([], []) (.leaf (.agg [.whole 7 8])) 1 [] <|
  .call 37 [.agg [.whole 7 8], .agg [.whole 5 8]] ([], []) (.leaf (.agg [.whole 8 8])) 1 [] <|
  .new <|
  .call 35 [.agg [.whole 2 8], .agg [.whole 4 8]] ([], []) (.leaf (.agg [.whole 9 8])) 1 [] <|
  .call 37 [.agg [.whole 9 8], .agg [.whole 6 8]] ([], []) (.leaf (.agg [.whole 10 8])) 1 [] <|
  .new <|
  .call 38 [.agg [.whole 5 8]] ([], []) (.leaf (.agg [.whole 11 8])) 1 [] <|
  .call 38 [.agg [.whole 6 8]] ([], []) (.leaf (.agg [.whole 12 8])) 1 [] <|
  .call 36 [.agg [.whole 11 8], .agg [.whole 12 8]] ([], []) (.leaf (.agg [.whole 13 8])) 1 [] <|
  .new <|
  .call 37 [.agg [.whole 11 8], .agg [.whole 12 8]] ([], []) (.leaf (.agg [.whole 14 8])) 1 [] <|
  .call 39 [.agg [.whole 13 8], .atom (.const (.int .i64 39081))] ([], []) (.leaf (.agg [.whole 15 8])) 1 [] <|
  .call 35 [.agg [.whole 11 8], .agg [.whole 15 8]] ([], []) (.leaf (.agg [.whole 16 8])) 1 [] <|
  .call 37 [.agg [.whole 13 8], .agg [.whole 16 8]] ([], []) (.leaf (.agg [.whole 17 8])) 1 [] <|
  .call 35 [.agg [.whole 8 8], .agg [.whole 10 8]] ([], []) (.leaf (.agg [.whole 18 8])) 1 [] <|
  .call 38 [.agg [.whole 18 8]] ([], []) (.leaf (.agg [.whole 19 8])) 1 [] <|
  .call 36 [.agg [.whole 8 8], .agg [.whole 10 8]] ([], []) (.leaf (.agg [.whole 20 8])) 1 [] <|
  .call 38 [.agg [.whole 20 8]] ([], []) (.leaf (.agg [.whole 21 8])) 1 [] <|
  .call 37 [.agg [.whole 0 8], .agg [.whole 21 8]] ([], []) (.leaf (.agg [.whole 22 8])) 1 [] <|
  .both (
    .both (
      .ret ([], []) (.tup [.agg [.whole 14 8, .whole 19 8], .agg [.whole 17 8, .whole 22 8]])) <|
    .ret ([], []) (.tup [.agg [.whole 14 8, .whole 19 8], .agg [.whole 17 8, .whole 22 8]])) <|
  .ret ([], []) (.tup [.agg [.whole 14 8, .whole 19 8], .agg [.whole 17 8, .whole 22 8]])
theorem c_lstep : compF Try.prog Try.f11 o_lstep (Try.f11.body.getD .skip) (symIn [.agg [.whole 0 8], .agg [.whole 1 8, .whole 2 8], .agg [.whole 3 8, .whole 4 8]] Try.f11.ntmps 5) = some t_lstep := by kernel_rfl
theorem g_lstep : goodC Try.prog o_lstep.ords (Try.f11.body.getD .skip) = true := by kernel_rfl
def tb_lstep : FuncId × Trans := (11, tStep)
set_option maxRecDepth 100000 in
theorem aw_lstep : ∀ zs Q, tb_lstep.2 zs Q → bindLs 0 [.agg [.whole 0 8], .agg [.whole 1 8, .whole 2 8], .agg [.whole 3 8, .whole 4 8]] zs fun ae => bif Nat.beq ae.length 5 then AWp Try.prog tjC Q t_lstep [] ae else False := by
  intro zs Q h
  replace h : tStep zs Q := h
  unfold tStep at h
  split at h
  case h_2 => exact h.elim
  have i1 : I64 39081 := by unfold I64; omega
  repeat ((conv => whnf) <;> first | exact rfl | refine wI (by omega) ?_ | refine wB (by omega) ?_ | refine wR (by omega) ?_ | refine wQ (by omega) ?_ | with_reducible refine And.intro rfl ?_ | with_reducible refine And.intro (by assumption) ?_ | with_reducible refine cTe (by assumption) ?_ | with_reducible refine cFe (by assumption) ?_ | with_reducible refine cN (cTe (by assumption) ?_) | with_reducible refine cN (cFe (by assumption) ?_) | with_reducible refine cTe rfl ?_ | with_reducible refine cEq (by assumption) ?_ | with_reducible refine cTt ?_ | with_reducible refine cNt ?_ | with_reducible refine cF (Eq.refl false) ?_ | refine And.intro (fun hh => by first | (cases hh; done) | rfl) ?_ | refine And.intro (by omega) ?_ | refine cTd (by omega) ?_ | refine cFd (by omega) ?_ | refine cN (cTd (by omega) ?_) | refine cN (cFd (by omega) ?_) | refine And.intro (by simp only [AV.size, Nat.div_one, List.length_append, List.length_singleton]; omega) ?_)
  (conv => whnf)
  exact ⟨⟨h, h⟩, h⟩
theorem tb_lstep_ok : Con Try.prog tb_lstep.1 tb_lstep.2 := con_tree tjC_ok o_lstep [.agg [.whole 0 8], .agg [.whole 1 8, .whole 2 8], .agg [.whole 3 8, .whole 4 8]] 5 Try.func11 rfl c_lstep aw_lstep g_lstep
/-- a number's upper bits, so many of all -/
def topN (k : List Int) (j : Nat) : Nat := nval k / 2 ^ (8 * k.length - j)
theorem topN_zero {k : List Int} (h : By k) : topN k 0 = 0 := by
  unfold topN; rw [Nat.sub_zero]; exact Nat.div_eq_of_lt (nval_lt h)
theorem topN_all (k : List Int) : topN k (8 * k.length) = nval k := by unfold topN; rw [Nat.sub_self, Nat.pow_zero, Nat.div_one]
theorem topN_half {k : List Int} {j : Nat} (h : j < 8 * k.length) : topN k (j + 1) / 2 = topN k j := by
  unfold topN
  rw [Nat.div_div_eq_div_mul, ← Nat.pow_succ]; congr 2; omega
theorem topN_lt {k : List Int} (h : By k) {j : Nat} (hj : j ≤ 8 * k.length) : topN k j < 2 ^ j := by
  have := nval_lt h
  unfold topN
  rw [Nat.div_lt_iff_lt_mul (Nat.pow_pos (by omega)), ← Nat.pow_add]
  rwa [show j + (8 * k.length - j) = 8 * k.length by omega]
theorem ladS_next {k : List Int} {j : Nat} (h : j < 8 * k.length) (u : F) : ladS u (j + 1) (topN k (j + 1)) = lbit u (topN k (j + 1)) (ladS u j (topN k j)) := by
  show lbit u (topN k (j + 1)) (ladS u j (topN k (j + 1) / 2)) = _
  rw [topN_half h]
/-- a bit, as it is read -/
theorem bit_at {k : List Int} (hb : By k) {j : Nat} (hj : j < 8 * k.length) {i : Int} (hi : i = 8 * (k.length : Int) - 1 - j) :
    bits .and .u8 ((k.getD (i / 8).toNat 0).fdiv (2 ^ (min (i % 8).toNat IntKind.u8.bits))) 1 = ((topN k (j + 1) % 2 : Nat) : Int) := by
  obtain ⟨m, hm⟩ : ∃ m : Nat, m = 8 * k.length - (j + 1) := ⟨_, rfl⟩
  have e1 : (i / 8).toNat = m / 8 := by omega
  have e2 : min (i % 8).toNat IntKind.u8.bits = m % 8 := by show min (i % 8).toNat 8 = m % 8; omega
  have hg := by_getD' hb (m / 8)
  rw [e1, e2]
  have hp : (0 : Int) < 2 ^ (m % 8) := Int.pow_pos (by omega)
  have hf : (k.getD (m / 8) 0).fdiv (2 ^ (m % 8)) = k.getD (m / 8) 0 / 2 ^ (m % 8) := Int.fdiv_eq_ediv_of_nonneg _ (Int.le_of_lt hp)
  rw [hf, u8_and1, nval_bit hb (by omega)]
  · unfold topN; rw [← hm]
  · refine ⟨Int.ediv_nonneg hg.1 (Int.le_of_lt hp), Int.ediv_lt_of_lt_mul hp ?_⟩
    have : (256 : Int) * 1 ≤ 256 * 2 ^ (m % 8) := Int.mul_le_mul_of_nonneg_left (by omega) (by omega)
    omega
theorem lif_eq {b : Nat} (p : L4) : lif b p = if b % 2 = 1 then lswap p else p := rfl
/-- what a swap by both bits comes to -/
theorem swA_bits {a b : Nat} (ha : a < 2) (hb : b < 2) (x y : F) : swA (bits .xor .i64 (a : Int) (b : Int)) x y = if a = b then x else y := by
  have h : ∀ a b : Fin 2, bits .xor .i64 ((a.val : Nat) : Int) ((b.val : Nat) : Int) % 2 = 0 ↔ a.val = b.val := by decide +kernel
  have h' := h ⟨a, ha⟩ ⟨b, hb⟩
  simp only at h'
  unfold swA
  by_cases e : a = b
  · rw [if_pos e, if_pos (h'.2 e)]
  · rw [if_neg e, if_neg (fun g => e (h'.1 g))]
theorem lif_swA {a b : Nat} (q : L4) : (⟨swA (bits .xor .i64 ((a % 2 : Nat) : Int) ((b % 2 : Nat) : Int)) (lif b q).x0 (lif b q).x1, swA (bits .xor .i64 ((a % 2 : Nat) : Int) ((b % 2 : Nat) : Int)) (lif b q).z0 (lif b q).z1, swA (bits .xor .i64 ((a % 2 : Nat) : Int) ((b % 2 : Nat) : Int)) (lif b q).x1 (lif b q).x0, swA (bits .xor .i64 ((a % 2 : Nat) : Int) ((b % 2 : Nat) : Int)) (lif b q).z1 (lif b q).z0⟩ : L4) = lif a q := by
  have h1 : a % 2 < 2 := by omega
  have h2 : b % 2 < 2 := by omega
  rw [swA_bits h1 h2, swA_bits h1 h2, swA_bits h1 h2, swA_bits h1 h2]
  unfold lif lswap
  by_cases ea : a % 2 = 1
  · by_cases eb : b % 2 = 1
    · simp only [ea, eb, if_true]
    · have eb' : b % 2 = 0 := by omega
      simp [ea, eb']
  · have ea' : a % 2 = 0 := by omega
    by_cases eb : b % 2 = 1
    · simp [ea', eb]
    · have eb' : b % 2 = 0 := by omega
      simp [ea', eb']
theorem lstep_lif (u : F) (b : Nat) (q : L4) : lstep u (lif b q) = lif b (lbit u b q) := by unfold lbit; rw [lif_lif]
theorem zsL {a a' i i' : Int} {p p' : L4} (h1 : a = a') (h2 : i = i') (h3 : p = p') : [AV.int .i64 a, .int .i64 i, .el p.x0, .el p.x1, .el p.z0, .el p.z1] = [.int .i64 a', .int .i64 i', .el p'.x0, .el p'.x1, .el p'.z0, .el p'.z1] := by rw [h1, h2, h3]
def e0 : AV := .lit (List.replicate 8 (.int .u64 0))
def tLadder : Trans := fun zs Q => match zs with
  | [.isl .u8 k, .el u] => (By k ∧ k.length ≤ 100000) ∧ (64 < k.length → Q (.tup [e0, .int .i64 11])) ∧ (k.length ≤ 64 → Q (.tup [.el (ladU u (nval k)), .int .i64 0]))
  | _ => False
def tjD : Tab := tb_int :: tb_lswap :: tb_lstep :: tb_inverse :: tb_mul :: []
theorem tjD_ok : tjD.OK Try.prog := tab_cons tb_int_ok <| tab_cons tb_lswap_ok <| tab_cons tb_lstep_ok <| tab_cons tb_inverse_ok <| tab_cons tb_mul_ok <| tab_nil _
def o_ladder : Orc := { ans := [(14, .one ⟨.leaf (.atom (.var 0)), 1, []⟩), (15, .two ⟨.leaf (.atom (.const (.bool true))), 0, []⟩ ⟨.leaf (.atom (.const (.bool false))), 0, []⟩), (17, .one ⟨.leaf (.agg [.whole 0 8]), 1, []⟩), (18, .one ⟨.leaf (.agg [.whole 0 8]), 1, []⟩), (20, .one ⟨.leaf (.agg [.whole 0 8]), 1, []⟩), (21, .one ⟨.leaf (.agg [.whole 0 8]), 1, []⟩), (24, .one ⟨.leaf (.atom (.var 0)), 1, []⟩), (25, .one ⟨.leaf (.atom (.var 0)), 1, []⟩), (26, .one ⟨.leaf (.atom (.var 0)), 1, []⟩), (30, .two ⟨.leaf (.atom (.const (.bool true))), 0, []⟩ ⟨.leaf (.atom (.const (.bool false))), 0, []⟩), (33, .one ⟨.leaf (.atom (.var 0)), 1, []⟩), (34, .one ⟨.leaf (.atom (.var 0)), 1, []⟩), (35, .one ⟨.leaf (.atom (.var 0)), 1, []⟩), (37, .one ⟨.leaf (.atom (.var 0)), 1, []⟩), (38, .one ⟨.leaf (.atom (.var 0)), 1, []⟩), (39, .one ⟨.leaf (.atom (.var 0)), 1, []⟩), (40, .one ⟨.leaf (.atom (.var 0)), 1, []⟩), (41, .one ⟨.leaf (.agg [.whole 0 8, .whole 1 8]), 2, []⟩), (43, .one ⟨.leaf (.agg [.whole 0 8, .whole 1 8]), 2, []⟩), (48, .one ⟨.leaf (.atom (.var 0)), 1, []⟩), (49, .one ⟨.leaf (.agg [.whole 0 8, .whole 1 8]), 2, []⟩), (53, .one ⟨.leaf (.atom (.var 0)), 1, []⟩), (54, .one ⟨.leaf (.agg [.whole 0 8, .whole 1 8]), 2, []⟩), (57, .two ⟨.leaf (.atom (.const (.bool true))), 0, []⟩ ⟨.leaf (.atom (.const (.bool false))), 0, []⟩), (59, .one ⟨.leaf (.agg [.whole 0 8]), 1, []⟩), (60, .one ⟨.leaf (.agg [.whole 0 8, .whole 1 8]), 2, []⟩), (61, .one ⟨.leaf (.agg [.whole 0 8, .whole 1 8]), 2, []⟩), (62, .one ⟨.tup [.agg [.whole 0 8, .whole 1 8], .agg [.whole 2 8, .whole 3 8]], 4, []⟩), (28, .one ⟨.leaf (.atom (.var 0)), 1, []⟩), (65, .one ⟨.leaf (.atom (.var 0)), 1, []⟩), (66, .one ⟨.leaf (.agg [.whole 0 8]), 1, []⟩), (67, .one ⟨.leaf (.atom (.var 0)), 1, []⟩), (68, .one ⟨.leaf (.agg [.whole 0 8]), 1, []⟩), (69, .one ⟨.leaf (.agg [.whole 0 8]), 1, []⟩), (70, .one ⟨.leaf (.agg [.whole 0 8]), 1, []⟩)], lps := [(0, [.slot 8 [.one], .slot 9 [.one], .blk 2 [.agg 8, .agg 8], .blk 3 [.agg 8, .agg 8]])], ords := [(3, [.quiet 1, .call 0 [6, 7], .pure 2, .call 3 [6, 7], .call 4 [6, 7], .pure 5, .make 6 [7], .make 7 [], .last 8, .last 9]), (10, [.quiet 0, .quiet 1, .quiet 2, .quiet 3, .pure 4, .pure 5]), (15, [.quiet 0, .quiet 1, .quiet 2, .quiet 3, .call 4 [], .call 5 [], .last 6, .last 7])] }
def t_ladder : Tree :=
  .new <|
  .new <|
  .calc (.call { callee := .builtin .len, args := #[.tmp 13], argTypes := #[44] }) 3 [(13, .leaf (.atom (.var 0)))] ([], []) (.leaf (.atom (.var 2))) 1 <|
  .calc2 (.binOp .gtr 3 (.tmp 14) (.const (.int .i64 64)) 3) 4 [(14, .leaf (.atom (.var 2)))] ([], []) (.leaf (.atom (.const (.bool true)))) 0 (
    .ret ([], []) (.tup [.agg [.lit [.int .u64 0, .int .u64 0, .int .u64 0, .int .u64 0, .int .u64 0, .int .u64 0, .int .u64 0, .int .u64 0]], .atom (.const (.int .i64 11))])) (.leaf (.atom (.const (.bool false)))) 0 <|
  .call 28 [.atom (.const (.int .i64 1))] ([], []) (.leaf (.agg [.whole 3 8])) 1 [] <|
  .call 28 [.atom (.const (.int .i64 0))] ([], []) (.leaf (.agg [.whole 4 8])) 1 [] <|
  .call 28 [.atom (.const (.int .i64 1))] ([], []) (.leaf (.agg [.whole 5 8])) 1 [] <|
  .new <|
  .new <|
  .calc (.call { callee := .builtin .len, args := #[.tmp 23], argTypes := #[44] }) 3 [(23, .leaf (.atom (.var 0)))] ([], []) (.leaf (.atom (.var 6))) 1 <|
  .calc (.binOp .mul 3 (.const (.int .i64 8)) (.tmp 24) 3) 3 [(24, .leaf (.atom (.var 6)))] ([], []) (.leaf (.atom (.var 7))) 1 <|
  .calc (.binOp .sub 3 (.tmp 25) (.const (.int .i64 1)) 3) 3 [(25, .leaf (.atom (.var 7)))] ([], []) (.leaf (.atom (.var 8))) 1 <|
  .loop [.atom (.const (.int .i64 0)), .atom (.var 8), .agg [.whole 3 8], .agg [.whole 1 8], .agg [.whole 4 8], .agg [.whole 5 8]] [.one, .one, .agg 8, .agg 8, .agg 8, .agg 8] <|
  .calc2 (.binOp .geq 3 (.tmp 29) (.const (.int .i64 0)) 3) 4 [(29, .leaf (.atom (.var 10)))] ([], []) (.leaf (.atom (.const (.bool true)))) 0 (
    .calc (.binOp .quo 3 (.tmp 32) (.const (.int .i64 8)) 3) 3 [(32, .leaf (.atom (.var 10)))] ([], []) (.leaf (.atom (.var 15))) 1 <|
    .calc (.indexAddr 44 (.tmp 31) (.tmp 33)) 0 [(31, .leaf (.atom (.var 0))), (33, .leaf (.atom (.var 15)))] ([], []) (.leaf (.atom (.var 16))) 1 <|
    .calc (.load 5 (.tmp 34)) 5 [(34, .leaf (.atom (.var 16)))] ([], []) (.leaf (.atom (.var 17))) 1 <|
    .calc (.binOp .rem 3 (.tmp 36) (.const (.int .i64 8)) 3) 3 [(36, .leaf (.atom (.var 10)))] ([], []) (.leaf (.atom (.var 18))) 1 <|
    .calc (.binOp .shr 5 (.tmp 35) (.tmp 37) 3) 5 [(35, .leaf (.atom (.var 17))), (37, .leaf (.atom (.var 18)))] ([], []) (.leaf (.atom (.var 19))) 1 <|
    .calc (.binOp .and 5 (.tmp 38) (.const (.int .u8 1)) 5) 5 [(38, .leaf (.atom (.var 19)))] ([], []) (.leaf (.atom (.var 20))) 1 <|
    .calc (.convert 5 3 (.tmp 39)) 3 [(39, .leaf (.atom (.var 20)))] ([], []) (.leaf (.atom (.var 21))) 1 <|
    .calc (.binOp .xor 3 (.tmp 46) (.tmp 47) 3) 3 [(46, .leaf (.atom (.var 21))), (47, .leaf (.atom (.var 9)))] ([], []) (.leaf (.atom (.var 22))) 1 <|
    .call 44 [.agg [.whole 11 8, .whole 12 8], .atom (.var 22)] ([], []) (.leaf (.agg [.whole 23 8, .whole 24 8])) 2 [] <|
    .calc (.binOp .xor 3 (.tmp 51) (.tmp 52) 3) 3 [(51, .leaf (.atom (.var 21))), (52, .leaf (.atom (.var 9)))] ([], []) (.leaf (.atom (.var 25))) 1 <|
    .call 44 [.agg [.whole 13 8, .whole 14 8], .atom (.var 25)] ([], []) (.leaf (.agg [.whole 26 8, .whole 27 8])) 2 [] <|
    .calc2 (.binOp .lss 3 (.tmp 56) (.const (.int .i64 0)) 3) 4 [(56, .leaf (.atom (.var 10)))] ([], []) (.leaf (.atom (.const (.bool true)))) 0 (
      .call 45 [.agg [.whole 26 8]] ([], []) (.leaf (.agg [.whole 28 8])) 1 [] <|
      .call 37 [.agg [.whole 23 8], .agg [.whole 28 8]] ([], []) (.leaf (.agg [.whole 29 8])) 1 [] <|
      .ret ([], []) (.tup [.agg [.whole 29 8], .atom (.const (.int .i64 0))])) (.leaf (.atom (.const (.bool false)))) 0 <|
    .call 11 [.agg [.whole 1 8], .agg [.whole 23 8, .whole 24 8], .agg [.whole 26 8, .whole 27 8]] ([], []) (.tup [.agg [.whole 28 8, .whole 29 8], .agg [.whole 30 8, .whole 31 8]]) 4 [] <|
    .calc (.binOp .sub 3 (.tmp 27) (.const (.int .i64 1)) 3) 3 [(27, .leaf (.atom (.var 10)))] ([], []) (.leaf (.atom (.var 32))) 1 <|
    .again 0 [.atom (.var 21), .atom (.var 32), .agg [.whole 28 8], .agg [.whole 29 8], .agg [.whole 30 8], .agg [.whole 31 8]]) (.leaf (.atom (.const (.bool false)))) 0 <|
  .calc (.binOp .xor 3 (.tmp 46) (.tmp 47) 3) 3 [(46, .leaf (.atom (.const (.int .i64 0)))), (47, .leaf (.atom (.var 9)))] ([], []) (.leaf (.atom (.var 15))) 1 <|
  .call 44 [.agg [.whole 11 8, .whole 12 8], .atom (.var 15)] ([], []) (.leaf (.agg [.whole 16 8, .whole 17 8])) 2 [] <|
  .calc (.binOp .xor 3 (.tmp 51) (.tmp 52) 3) 3 [(51, .leaf (.atom (.const (.int .i64 0)))), (52, .leaf (.atom (.var 9)))] ([], []) (.leaf (.atom (.var 18))) 1 <|
  .call 44 [.agg [.whole 13 8, .whole 14 8], .atom (.var 18)] ([], []) (.leaf (.agg [.whole 19 8, .whole 20 8])) 2 [] <|
  .calc2 (.binOp .lss 3 (.tmp 56) (.const (.int .i64 0)) 3) 4 [(56, .leaf (.atom (.var 10)))] ([], []) (.leaf (.atom (.const (.bool true)))) 0 (
    .call 45 [.agg [.whole 19 8]] ([], []) (.leaf (.agg [.whole 21 8])) 1 [] <|
    .call 37 [.agg [.whole 16 8], .agg [.whole 21 8]] ([], []) (.leaf (.agg [.whole 22 8])) 1 [] <|
    .ret ([], []) (.tup [.agg [.whole 22 8], .atom (.const (.int .i64 0))])) (.leaf (.atom (.const (.bool false)))) 0 <|
  .call 11 [.agg [.whole 1 8], .agg [.whole 16 8, .whole 17 8], .agg [.whole 19 8, .whole 20 8]] ([], []) (.tup [.agg [.whole 21 8, .whole 22 8], .agg [.whole 23 8, .whole 24 8]]) 4 [] <|
  .calc (.binOp .sub 3 (.tmp 27) (.const (.int .i64 1)) 3) 3 [(27, .leaf (.atom (.var 10)))] ([], []) (.leaf (.atom (.var 25))) 1 <|
  .again 0 [.atom (.const (.int .i64 0)), .atom (.var 25), .agg [.whole 21 8], .agg [.whole 22 8], .agg [.whole 23 8], .agg [.whole 24 8]]
theorem c_ladder : compF Try.prog Try.f16 o_ladder (Try.f16.body.getD .skip) (symIn [.atom (.var 0), .agg [.whole 1 8]] Try.f16.ntmps 2) = some t_ladder := by kernel_rfl
theorem g_ladder : goodC Try.prog o_ladder.ords (Try.f16.body.getD .skip) = true := by kernel_rfl
def tb_ladder : FuncId × Trans := (16, tLadder)
set_option maxRecDepth 100000 in
theorem aw_ladder : ∀ zs Q, tb_ladder.2 zs Q → bindLs 0 [.atom (.var 0), .agg [.whole 1 8]] zs fun ae => bif Nat.beq ae.length 2 then AWp Try.prog tjD Q t_ladder [] ae else False := by
  intro zs Q h
  replace h : tLadder zs Q := h
  unfold tLadder at h
  split at h
  case h_2 => exact h.elim
  rename_i k u
  obtain ⟨⟨hb, hl⟩, h1, h2⟩ := h
  have i0 : I64 0 := by unfold I64; omega
  have i1 : I64 1 := by unfold I64; omega
  by_cases h64 : 64 < k.length
  · have h' := h1 h64
    repeat ((conv => whnf) <;> first | exact rfl | refine wI (by omega) ?_ | refine wB (by omega) ?_ | refine wR (by omega) ?_ | refine wQ (by omega) ?_ | with_reducible refine And.intro rfl ?_ | with_reducible refine And.intro (by assumption) ?_ | with_reducible refine cTe (by assumption) ?_ | with_reducible refine cFe (by assumption) ?_ | with_reducible refine cN (cTe (by assumption) ?_) | with_reducible refine cN (cFe (by assumption) ?_) | with_reducible refine cTe rfl ?_ | with_reducible refine cEq (by assumption) ?_ | with_reducible refine cTt ?_ | with_reducible refine cNt ?_ | with_reducible refine cF (Eq.refl false) ?_ | refine And.intro (fun hh => by first | (cases hh; done) | rfl) ?_ | refine And.intro (by omega) ?_ | refine cTd (by omega) ?_ | refine cFd (by omega) ?_ | refine cN (cTd (by omega) ?_) | refine cN (cFd (by omega) ?_) | refine And.intro (by simp only [AV.size, Nat.div_one, List.length_append, List.length_singleton]; omega) ?_)
    (conv => whnf)
    exact h'
  have h' := h2 (by omega)
  repeat ((conv => whnf) <;> first | exact rfl | refine wI (by omega) ?_ | refine wB (by omega) ?_ | refine wR (by omega) ?_ | refine wQ (by omega) ?_ | with_reducible refine And.intro rfl ?_ | with_reducible refine And.intro (by assumption) ?_ | with_reducible refine cTe (by assumption) ?_ | with_reducible refine cFe (by assumption) ?_ | with_reducible refine cN (cTe (by assumption) ?_) | with_reducible refine cN (cFe (by assumption) ?_) | with_reducible refine cTe rfl ?_ | with_reducible refine cEq (by assumption) ?_ | with_reducible refine cTt ?_ | with_reducible refine cNt ?_ | with_reducible refine cF (Eq.refl false) ?_ | refine And.intro (fun hh => by first | (cases hh; done) | rfl) ?_ | refine And.intro (by omega) ?_ | refine cTd (by omega) ?_ | refine cFd (by omega) ?_ | refine cN (cTd (by omega) ?_) | refine cN (cFd (by omega) ?_) | refine And.intro (by simp only [AV.size, Nat.div_one, List.length_append, List.length_singleton]; omega) ?_)
  refine ⟨Nat, fun j zs => j ≤ 8 * k.length ∧ zs = [.int .i64 ((topN k j % 2 : Nat) : Int), .int .i64 (8 * (k.length : Int) - 1 - j), .el (lif (topN k j) (ladS u j (topN k j))).x0, .el (lif (topN k j) (ladS u j (topN k j))).x1, .el (lif (topN k j) (ladS u j (topN k j))).z0, .el (lif (topN k j) (ladS u j (topN k j))).z1], fun j => 8 * k.length + 1 - j, 0, ?_, ?_⟩
  · (conv => whnf)
    refine ⟨_, Subs.refl' _, Nat.zero_le _, ?_⟩
    rw [topN_zero hb]
    exact zsL (p := ⟨z 1, z 0, u, z 1⟩) (p' := lif 0 (ladS u 0 0)) rfl (by omega) rfl
  rintro j _ ⟨hj, rfl⟩
  have hlt' := topN_lt hb hj
  generalize hq : ladS u j (topN k j) = q
  by_cases hlt : j < 8 * k.length
  · have e2 := bit_at hb hlt (i := 8 * (k.length : Int) - 1 - j) rfl
    have hn := ladS_next hlt u
    rw [hq] at hn
    generalize topN k j = b at *
    generalize ha : topN k (j + 1) = a at *
    have r2 : (0 : Int) ≤ ((a % 2 : Nat) : Int) ∧ ((a % 2 : Nat) : Int) < 2 := by omega
    repeat ((conv => whnf) <;> first | exact rfl | refine wI (by omega) ?_ | refine wB (by omega) ?_ | refine wR (by omega) ?_ | refine wQ (by omega) ?_ | with_reducible refine And.intro rfl ?_ | with_reducible refine And.intro (by assumption) ?_ | with_reducible refine cTe (by assumption) ?_ | with_reducible refine cFe (by assumption) ?_ | with_reducible refine cN (cTe (by assumption) ?_) | with_reducible refine cN (cFe (by assumption) ?_) | with_reducible refine cTe rfl ?_ | with_reducible refine cEq (by assumption) ?_ | with_reducible refine cTt ?_ | with_reducible refine cNt ?_ | with_reducible refine cF (Eq.refl false) ?_ | refine And.intro (fun hh => by first | (cases hh; done) | rfl) ?_ | refine And.intro (by omega) ?_ | refine cTd (by omega) ?_ | refine cFd (by omega) ?_ | refine cN (cTd (by omega) ?_) | refine cN (cFd (by omega) ?_) | refine And.intro (by simp only [AV.size, Nat.div_one, List.length_append, List.length_singleton]; omega) ?_)
    (conv => whnf)
    rw [e2]
    refine ⟨_, Subs.refl' _, j + 1, ⟨by omega, ?_⟩, by show 8 * k.length + 1 - (j + 1) < 8 * k.length + 1 - j; omega⟩
    rw [lif_swA, ha, hn]
    exact zsL rfl (by omega) (lstep_lif u a q)
  · have hj' : j = 8 * k.length := by omega
    have er : q.res = ladU u (nval k) := by rw [← hq, hj', topN_all]; exact ladU_eq (nval_lt hb)
    generalize topN k j = b at *
    have ew := lif_swA (a := 0) (b := b) q
    repeat ((conv => whnf) <;> first | exact rfl | refine wI (by omega) ?_ | refine wB (by omega) ?_ | refine wR (by omega) ?_ | refine wQ (by omega) ?_ | with_reducible refine And.intro rfl ?_ | with_reducible refine And.intro (by assumption) ?_ | with_reducible refine cTe (by assumption) ?_ | with_reducible refine cFe (by assumption) ?_ | with_reducible refine cN (cTe (by assumption) ?_) | with_reducible refine cN (cFe (by assumption) ?_) | with_reducible refine cTe rfl ?_ | with_reducible refine cEq (by assumption) ?_ | with_reducible refine cTt ?_ | with_reducible refine cNt ?_ | with_reducible refine cF (Eq.refl false) ?_ | refine And.intro (fun hh => by first | (cases hh; done) | rfl) ?_ | refine And.intro (by omega) ?_ | refine cTd (by omega) ?_ | refine cFd (by omega) ?_ | refine cN (cTd (by omega) ?_) | refine cN (cFd (by omega) ?_) | refine And.intro (by simp only [AV.size, Nat.div_one, List.length_append, List.length_singleton]; omega) ?_)
    (conv => whnf)
    have e3 : ∀ x y z w : F, (⟨x, y, z, w⟩ : L4) = lif 0 q → x * inv y = ladU u (nval k) := by
      intro x y z w e
      rw [← er]
      have : lif 0 q = q := rfl
      rw [this] at e
      rw [← e]; rfl
    have := e3 _ _ _ _ ew
    rw [← this] at h'
    exact h'
theorem tb_ladder_ok : Con Try.prog tb_ladder.1 tb_ladder.2 := con_tree tjD_ok o_ladder [.atom (.var 0), .agg [.whole 1 8]] 2 Try.func16 rfl c_ladder aw_ladder g_ladder
end Go.Proofs.Ytmbapbbneapcnaa
