/- joined: Bits Stp Bo Edm Vo -/
import Derived.Test.YtohebkkiicbdoaaJ12
set_option linter.unusedSimpArgs false
set_option linter.unusedVariables false
/- Bits of numbers, plain. -/
namespace Go.Proofs.Ytohebkkiicbdoaa
open FdP FdP.Ch
theorem bval_byte : ∀ {l : List Int} {j : Nat}, By l → j < l.length → bval l / 256 ^ j % 256 = l.getD j 0
 | [], _, _, h => by simp at h
 | x :: l, 0, hb, _ => by
  have := hb x (by simp)
  simp only [bval, Int.pow_zero, Int.ediv_one, List.getD_cons_zero]; omega
 | x :: l, j + 1, hb, h => by
  have h0 := hb x (by simp)
  have ih := bval_byte (l := l) (j := j) (fun y hy => hb y (List.mem_cons_of_mem _ hy)) (by simpa using h)
  simp only [bval, List.getD_cons_succ]
  rw [← ih]
  have e : (256 : Int) ^ (j + 1) = 256 * 256 ^ j := by rw [Int.pow_succ, Int.mul_comm]
  rw [e, ← Int.ediv_ediv_of_nonneg (by omega)]
  have : (x + 256 * bval l) / 256 = bval l := by omega
  rw [this]
def nval (l : List Int) : Nat := (bval l).toNat
theorem nval_eq {l : List Int} (h : By l) : (nval l : Int) = bval l := by
 have := (bval_bd h).1
 unfold nval; omega
theorem nval_lt {l : List Int} (h : By l) : nval l < 2 ^ (8 * l.length) := by
 have h1 := (bval_bd h).2
 rw [← nval_eq h] at h1
 have : (256 : Int) ^ l.length = ((2 ^ (8 * l.length) : Nat) : Int) := by
  rw [Nat.pow_mul, Int.natCast_pow]; rfl
 rw [this] at h1
 exact Int.ofNat_lt.1 h1
theorem nval_bit {l : List Int} (h : By l) {i : Nat} (hi : i < 8 * l.length) : l.getD (i / 8) 0 / 2 ^ (i % 8) % 2 = ((nval l / 2 ^ i % 2 : Nat) : Int) := by
 have hb := bval_byte h (show i / 8 < l.length by omega)
 rw [← hb, ← nval_eq h]
 have e1 : ((nval l : Int) / 256 ^ (i / 8) % 256) = ((nval l / 256 ^ (i / 8) % 256 : Nat) : Int) := by rw [Int.natCast_emod, Int.natCast_ediv, Int.natCast_pow]; rfl
 have e2 : ((nval l / 256 ^ (i / 8) % 256 : Nat) : Int) / 2 ^ (i % 8) % 2 = ((nval l / 256 ^ (i / 8) % 256 / 2 ^ (i % 8) % 2 : Nat) : Int) := by rw [Int.natCast_emod (nval l / 256 ^ (i / 8) % 256 / 2 ^ (i % 8)), Int.natCast_ediv (nval l / 256 ^ (i / 8) % 256), Int.natCast_pow]; rfl
 rw [e1, e2]
 congr 1
 have e3 : nval l / 2 ^ i = nval l / 256 ^ (i / 8) / 2 ^ (i % 8) := by
  rw [Nat.div_div_eq_div_mul]
  congr 1
  rw [show 256 = 2 ^ 8 from rfl, ← Nat.pow_mul, ← Nat.pow_add]; congr 1; omega
 rw [e3]
 generalize nval l / 256 ^ (i / 8) = m
 have : ∀ k, k < 8 → m % 256 / 2 ^ k % 2 = m / 2 ^ k % 2 := by
  intro k hk
  match k, hk with
  | 0, _ => omega
  | 1, _ => omega
  | 2, _ => omega
  | 3, _ => omega
  | 4, _ => omega
  | 5, _ => omega
  | 6, _ => omega
  | 7, _ => omega
 exact this _ (by omega)
theorem half_step (n i : Nat) : n / 2 ^ i = n / 2 ^ (i + 1) + n / 2 ^ (i + 1) + n / 2 ^ i % 2 := by
 have : n / 2 ^ (i + 1) = n / 2 ^ i / 2 := by rw [Nat.pow_succ, Nat.div_div_eq_div_mul]
 omega
end Go.Proofs.Ytohebkkiicbdoaa
/- Steps of walks in plain words. -/
namespace Go.Proofs.Ytohebkkiicbdoaa
open Go.RowKit FdP FdP.Ch
instance (b : List Int) : Decidable (By b) := by unfold By; infer_instance
theorem Sub.refl' (a : AV) : Sub a a := fun _ _ h => h
theorem Subs.refl' : ∀ l : List AV, Subs l l
 | [] => trivial
 | a :: l => ⟨Sub.refl' a, Subs.refl' l⟩
theorem sub_lit {l : List Value} {k : IntKind} {m : List Int} (h : litInts l = some (k, m)) : Sub (.lit l) (.ints k m) := by
 intro β v hv
 obtain ⟨cs, rfl, rfl, _⟩ := hv.agg rfl
 exact valR0.mk (a := .ints k m) rfl (litInts_ok h)
theorem zs2 {k : IntKind} {a a' : Int} {b b' : AV} (h : a = a') (h' : b = b') : [AV.int k a, b] = [.int k a', b'] := by rw [h, h']
theorem wI {e : Int} {K : Int → Prop} (h : -9223372036854775808 ≤ e ∧ e < 9223372036854775808) (k : K e) : ∀ r q : Int, r = e + q * 18446744073709551616 → -9223372036854775808 ≤ r → r < 9223372036854775808 → K r := by
 intro r q hr h1 h2
 obtain rfl : r = e := by omega
 exact k
theorem wB {e : Int} {K : Int → Prop} (h : 0 ≤ e ∧ e < 256) (k : K e) : ∀ r q : Int, r = e + q * 256 → 0 ≤ r → r < 256 → K r := by
 intro r q hr h1 h2
 obtain rfl : r = e := by omega
 exact k
theorem wR {m n : Int} {K : Int → Prop} (h : 0 ≤ m ∧ 0 < n) (k : K (m % n)) : ∀ r : Int, r = m.tmod n → (0 ≤ m → 0 < n → r = m % n) → K r := by
 intro r _ hr
 rw [hr h.1 h.2]; exact k
theorem wQ {m n : Int} {K : Int → Prop} (h : 0 ≤ m ∧ 0 < n) (k : K (m / n)) : ∀ r : Int, r = m.tdiv n → (0 ≤ m → 0 < n → r = m / n) → K r := by
 intro r _ hr
 rw [hr h.1 h.2]; exact k
theorem ints_eq {k : IntKind} {l m : List Int} (h : l = m) : AV.ints k l = .ints k m := by rw [h]
theorem zs2i {k : IntKind} {a a' b b' : Int} (h : a = a') (h' : b = b') : [AV.int k a, .int k b] = [.int k a', .int k b'] := by rw [h, h']
theorem shr_bd {B : Int} (h : 0 ≤ B ∧ B < 256) (m : Nat) : 0 ≤ B / 2 ^ m ∧ B / 2 ^ m < 256 ∧ B / 2 ^ (m + 1) = B / 2 ^ m / 2 := by
 have hp : (0 : Int) < 2 ^ m := Int.pow_pos (by omega)
 refine ⟨Int.ediv_nonneg h.1 (by omega), ?_, ?_⟩
 ·exact Int.lt_of_le_of_lt (Int.ediv_le_self _ h.1) h.2
 ·rw [Int.pow_succ, Int.ediv_ediv_of_nonneg (by omega)]
theorem cTt {A B : Prop} (a : A) : Sel true A B := cT rfl a
theorem cNt {A B : Prop} (b : B) : Sel (!true) A B := cF rfl b
theorem by_getD {l : List Int} (h : By l) {i : Nat} (hi : i < l.length) : 0 ≤ l.getD i 0 ∧ l.getD i 0 < 256 := by
 have e : l.getD i 0 = l[i] := by simp [List.getD, hi]
 rw [e]; exact h _ (List.getElem_mem hi)
theorem by_getD' {l : List Int} (h : By l) (i : Nat) : 0 ≤ l.getD i 0 ∧ l.getD i 0 < 256 := by
 by_cases hi : i < l.length
 ·exact by_getD h hi
 ·have : l.getD i 0 = 0 := by simp [List.getD, List.getElem?_eq_none (Nat.le_of_not_lt hi)]
  omega
theorem sub_row0 : Sub (.val (.slice none 0 0)) (.row 0) := by
 intro β v hv
 obtain rfl := hv.val_inv
 exact valR0.mk1 rfl ⟨none, 0, rfl⟩
theorem sub_agg0 (k : IntKind) : Sub (.agg []) (.ints k []) := by
 intro β v hv
 obtain ⟨cs, rfl, hc⟩ := hv.agg rfl
 simp only [cellsR, cellsRs] at hc
 subst hc
 exact valR0.mk (a := .ints k []) rfl rfl
end Go.Proofs.Ytohebkkiicbdoaa
/- Contracts in plain words: bytes of elements, elements of bytes. -/
namespace Go.Proofs.Ytohebkkiicbdoaa
open Go.RowKit FdP FdP.Ch

def byF (x : F) : List Int := rawF (dig x.val)
theorem byF_len (x : F) : (byF x).length = 56 := rawF_len _
theorem byF_by (x : F) : By (byF x) := rawF_by _
theorem byF_bval (x : F) : bval (byF x) = x.val := by
 unfold byF
 rw [rawF_law _ rfl (dig_bd _), val_dig _ (by omega) (val_lt x)]
theorem byF_z (x : F) : z (bval (byF x)) = x := by rw [byF_bval, z_of_val]
theorem byF_inj {x y : F} (h : byF x = byF y) : x = y := by rw [← byF_z x, ← byF_z y, h]
theorem byF_lt (x : F) : bval (byF x) < P := by rw [byF_bval]; have := x.isLt; omega
theorem byF_odd (x : F) : (byF x).getD 0 0 % 2 = (x.val : Int) % 2 := by
 have h := bval_byte (byF_by x) (show 0 < (byF x).length by rw [byF_len]; omega)
 rw [byF_bval] at h
 rw [← h]
 simp only [Int.pow_zero, Int.ediv_one]
 omega

theorem so_own {w w' : World} {x : Nat → Prop} {v : Value} {xs : List Int} (h : So w w' v xs) (hx : ∀ k, x k → k < w.heap.size) : valF w.heap.size ⟨w', x⟩ (.own 5 1 (.ints .u8 xs)) v :=
 ⟨valR0.mk1 (a := .own 5 1 (.ints .u8 xs)) rfl ⟨v, xs.length, ys xs, rfl, ⟨h.1, h.2.imp id fun ⟨g, cap, cur, f1, f2, f3⟩ => ⟨g, cap, cur, f1, Nat.zero_le _, f3⟩⟩, fun g hg hh => by have := hx g hh; have := (World.ownsRow.lt h g hg).1; omega, rfl⟩, fun g hg => (World.ownsRow.lt h g hg).1⟩
theorem so_isl {w w' : World} {x : Nat → Prop} {v : Value} {xs : List Int} (h : So w w' v xs) (hx : ∀ k, x k → k < w.heap.size) : valR ⟨w', x⟩ (.isl .u8 xs) v := by
 refine (valR0.mk1 (a := .isl .u8 xs) rfl ⟨v, rfl, ?_⟩ : valR0 ⟨w', x⟩ (.isl .u8 xs) v)
 obtain ⟨h1, ⟨rfl, e⟩ | ⟨g, cap, cur, rfl, hb, hgg, hcap, _, hcs, htk⟩⟩ := h
 ·exact ⟨none, 0, by rw [e], by omega, by simp, fun h0 => by simp at h0; omega⟩
 ·refine View.mk rfl hcap (by simp) (Array.getElem?_eq_some_iff.1 hgg).1 (fun hh => by have := hx g hh; omega) fun j hj => ?_
  have hj' : j < xs.length := by simpa using hj
  rw [cell_of_row w' g (0 + j) cur 5 (0, 0) hgg, Nat.zero_add]
  have : (ys xs)[j]? = cur[j]? := by rw [← htk, List.getElem?_take, if_pos (by omega)]; simp
  rw [← this]; rfl
def tByI : Trans := fun zs Q => match zs with
 | [a] => (match a.el? with
  | some x => Q (.isl .u8 (byF x))
  | none => False)
 | _ => False
def tFByI : Trans := fun zs Q => match zs with
 | [a] => (match a.fg? with
  | some x => Q (.isl .u8 (byF x))
  | none => False)
 | _ => False
def tFByO : Trans := fun zs Q => match zs with
 | [a] => (match a.fg? with
  | some x => Q (.own 5 1 (.ints .u8 (byF x)))
  | none => False)
 | _ => False
def tK (l : List Int) : Trans := fun zs Q => match zs with
 | [] => Q (.isl .u8 l)
 | _ => False
section
variable {P : Program} {fn : FuncId}
theorem con_ByI (h : ∀ {l : List Int} {a : F}, E l a → ∀ w, Calls P fn #[AG (us l)] w (OutO (byF a) w)) : Con P fn tByI := by
 intro w x vals zs Q hx hv hg
 unfold tByI at hg
 split at hg
 ·obtain ⟨v0, u0, e0, r0, q0⟩ := hv
  simp only [valsR] at q0
  split at hg
  ·rename_i x0 g0
   obtain ⟨l0, rfl, h0⟩ := el_inv g0 r0
   subst e0 q0
   exact (h h0 w).mono fun e w' ⟨v, he, hs, hF⟩ => OutA.mk he (so_isl hs hx) hg hF
  ·exact hg.elim
 ·exact hg.elim
theorem con_FByI (h : ∀ (a : F) w, Calls P fn #[FG a] w (OutO (byF a) w)) : Con P fn tFByI := by
 intro w x vals zs Q hx hv hg
 unfold tFByI at hg
 split at hg
 ·obtain ⟨v0, u0, e0, r0, q0⟩ := hv
  simp only [valsR] at q0
  split at hg
  ·rename_i x0 g0
   obtain rfl := fg_inv g0 r0
   subst e0 q0
   exact (h x0 w).mono fun e w' ⟨v, he, hs, hF⟩ => OutA.mk he (so_isl hs hx) hg hF
  ·exact hg.elim
 ·exact hg.elim
theorem con_FByO (h : ∀ (a : F) w, Calls P fn #[FG a] w (OutO (byF a) w)) : Con P fn tFByO := by
 intro w x vals zs Q hx hv hg
 unfold tFByO at hg
 split at hg
 ·obtain ⟨v0, u0, e0, r0, q0⟩ := hv
  simp only [valsR] at q0
  split at hg
  ·rename_i x0 g0
   obtain rfl := fg_inv g0 r0
   subst e0 q0
   exact (h x0 w).mono fun e w' ⟨v, he, hs, hF⟩ => ⟨v, _, he, so_own hs hx, hg, hF⟩
  ·exact hg.elim
 ·exact hg.elim
end
theorem bytes_oc {l : List Int} {a : F} (h : E l a) (w : World) : Calls Try.prog 68 #[AG (us l)] w (OutO (byF a) w) := by
 have := bytes_own l h.len h.bd w
 rwa [bytes_eq h] at this
def tb_byI : FuncId × Trans := (68, tByI)
theorem tb_byI_ok : Con Try.prog tb_byI.1 tb_byI.2 := con_ByI fun h w => bytes_oc h w
def tb_rbyI : FuncId × Trans := (69, tFByI)
theorem tb_rbyI_ok : Con Try.prog tb_rbyI.1 tb_rbyI.2 := con_FByI fun a w => rbytes_o a w
def tb_rbyO : FuncId × Trans := (69, tFByO)
theorem tb_rbyO_ok : Con Try.prog tb_rbyO.1 tb_rbyO.2 := con_FByO fun a w => rbytes_o a w
def tRP : Trans := fun zs Q => match zs with
 | [] => Q (.ints .i64 primeD)
 | _ => False
def tb_rprimeD : FuncId × Trans := (63, tRP)
theorem tb_rprimeD_ok : Con Try.prog tb_rprimeD.1 tb_rprimeD.2 := by
 intro w x vals zs Q hx hv hg
 replace hg : tRP zs Q := hg
 unfold tRP at hg
 split at hg
 ·simp only [valsR] at hv
  subst hv
  exact (rprime_any w).mono fun e w' ⟨he, hF⟩ => OutA.mk (a := .ints .i64 primeD) he (valR0.mk (a := .ints .i64 primeD) rfl rfl) hg hF
 ·exact hg.elim
def tRBD : Trans := fun zs Q => match zs with
 | [.ints .i64 l] => (l.length = 16 ∧ Dg l) ∧ Q (.isl .u8 (rawF (pairs l)))
 | _ => False
def tb_rbyD : FuncId × Trans := (69, tRBD)
theorem tb_rbyD_ok : Con Try.prog tb_rbyD.1 tb_rbyD.2 := by
 intro w x vals zs Q hx hv hg
 replace hg : tRBD zs Q := hg
 unfold tRBD at hg
 split at hg
 ·obtain ⟨v0, u0, e0, r0, q0⟩ := hv
  simp only [valsR] at q0
  subst e0 q0
  obtain ⟨cs, rfl, hc⟩ := r0.agg rfl
  simp only [cellsR] at hc
  subst hc
  exact (rbytes_go _ hg.1.1 hg.1.2 w).mono fun e w' ⟨v, he, hs, hF⟩ => OutA.mk he (so_isl hs hx) hg.2 hF
 ·exact hg.elim
def tFOf : Trans := fun zs Q => match zs with
 | [a] => (match a.by? with
  | some l => (l.length = 56 ∧ By l) ∧ Q (.tup [.el (z (bval l)), .int .i64 0])
  | none => False)
 | _ => False
theorem con_FOf {P : Program} {fn : FuncId} (h : ∀ (g off cap : Nat) (b : List Int), b.length = 56 → By b → ∀ w, Rd w g off b → Calls P fn #[.slice (some ⟨g, off, none⟩) 56 cap] w fun e w' => ∃ l, e = .returned (.tuple #[AG (us l), .int .i64 0]) ∧ E l (z (bval b)) ∧ Fut w w') : Con P fn tFOf := by
 intro w x vals zs Q hx hv hg
 unfold tFOf at hg
 split at hg
 ·rename_i a0
  obtain ⟨v0, u0, e0, r0, q0⟩ := hv
  simp only [valsR] at q0
  split at hg
  ·rename_i x0 g0
   have s0 := by_inv g0 r0
   subst e0 q0
   obtain ⟨⟨hl, hb⟩, hg⟩ := hg
   obtain ⟨ad, cap, rfl, hp⟩ := s0
   obtain ⟨g, off, rfl, hr⟩ := hp (by omega)
   rw [hl]
   exact (h g off cap x0 hl hb w hr).mono fun e w' ⟨m, he, hE, hF⟩ => OutA.mk (a := .tup [.el (z (bval x0)), .int .i64 0]) he ⟨_, rfl, _, _, rfl, el_mk hE, _, _, rfl, valR0.mk1 rfl rfl, rfl⟩ hg hF
  ·exact hg.elim
 ·exact hg.elim
def tb_fof : FuncId × Trans := (35, tFOf)
theorem tb_fof_ok : Con Try.prog tb_fof.1 tb_fof.2 := con_FOf fun g off cap b lb yb w hr => (of_any g off cap b lb w hr).mono fun _ _ ⟨h1, h2⟩ => ⟨_, h1, of_E b lb yb, h2⟩
def tDec : Trans := fun zs Q => match zs with
 | [a] => (match a.by? with
  | some l => By l ∧ Sel (dec (l.length = 56)) (Sel (dec (bval l < P)) (Q (.tup [.el (z (bval l)), .int .i64 0])) (Q (.tup [.el 0, .int .i64 12]))) (Q (.tup [.el 0, .int .i64 11]))
  | none => False)
 | _ => False
theorem tup_el {β : Base} {l : List Int} {x : F} (h : E l x) (n : Int) : valR β (.tup [.el x, .int .i64 n]) (.tuple #[AG (us l), .int .i64 n]) := ⟨_, rfl, _, _, rfl, el_mk h, _, _, rfl, valR0.mk1 rfl rfl, rfl⟩
def tb_fdec : FuncId × Trans := (79, tDec)
theorem tb_fdec_ok : Con Try.prog tb_fdec.1 tb_fdec.2 := by
 intro w x vals zs Q hx hv hg
 replace hg : tDec zs Q := hg
 unfold tDec at hg
 split at hg
 ·obtain ⟨v0, u0, e0, r0, q0⟩ := hv
  simp only [valsR] at q0
  split at hg
  ·rename_i l g0
   have s0 := by_inv g0 r0
   subst e0 q0
   obtain ⟨hb, hg⟩ := hg
   obtain ⟨ad, cap, rfl, hp⟩ := s0
   by_cases hl : l.length = 56
   ·obtain ⟨g, off, rfl, hr⟩ := hp (by omega)
    rw [hl]
    have hg := hg.yes (dec_true hl)
    have key : bytesF (ofF l) = l ↔ bval l < FdP.P := by
     rw [bytes_eq (of_E l hl hb), ← fits_key l hl hb]
     exact ⟨Eq.symm, Eq.symm⟩
    by_cases hlt : bval l < FdP.P
    ·refine (decode_any g off cap l hl hb w hr).mono fun e w' ⟨he, hF⟩ => OutA.mk he ?_ (hg.yes (dec_true hlt)) hF
     rw [if_pos (key.2 hlt), if_pos (key.2 hlt)]
     exact tup_el (of_E l hl hb) 0
    ·refine (decode_any g off cap l hl hb w hr).mono fun e w' ⟨he, hF⟩ => OutA.mk he ?_ (hg.no (dec_false hlt)) hF
     rw [if_neg fun h => hlt (key.1 h), if_neg fun h => hlt (key.1 h)]
     exact tup_el zero_E 12
   ·exact (decode_bad ad l.length cap hl w).mono fun e w' ⟨he, hF⟩ => OutA.mk he (tup_el zero_E 11) (hg.no (dec_false hl)) hF
  ·exact hg.elim
 ·exact hg.elim
end Go.Proofs.Ytohebkkiicbdoaa
/- Multiples of points, the base, and its order, plain. -/
namespace Go.Proofs.Ytohebkkiicbdoaa
open FdP FdP.Ch
theorem G.comm (p q : G) : p + q = q + p := Ed.add_comm cd_no p q
theorem G.assoc (p q r : G) : p + q + r = p + (q + r) := Ed.assoc cd_no p q r
theorem G.add_zero (p : G) : p + 0 = p := Ed.add_zero cd_no p
theorem G.zero_add (p : G) : 0 + p = p := Ed.zero_add cd_no p
theorem G.add_neg (p : G) : p + -p = 0 := Ed.add_neg cd_no p
theorem G.neg_add (p : G) : -p + p = 0 := by rw [G.comm, G.add_neg]
theorem G.cancel {p q r : G} (h : p + r = q + r) : p = q := by
 have : p + r + -r = q + r + -r := by rw [h]
 rwa [G.assoc, G.add_neg, G.add_zero, G.assoc, G.add_neg, G.add_zero] at this
theorem G.neg_uniq {p q : G} (h : p + q = 0) : q = -p := by
 apply G.cancel (r := p)
 rw [G.comm q, h, G.neg_add]
theorem G.neg_neg (p : G) : - -p = p := (G.neg_uniq (G.neg_add p)).symm
def mulG : Nat → G → G
 | 0, _ => 0
 | n + 1, p => mulG n p + p
theorem mulG_zero (p : G) : mulG 0 p = 0 := rfl
theorem mulG_one (p : G) : mulG 1 p = p := G.zero_add p
theorem mulG_two (p : G) : mulG 2 p = p + p := by show mulG 1 p + p = _; rw [mulG_one]
theorem mulG_add (m n : Nat) (p : G) : mulG (m + n) p = mulG m p + mulG n p := by
 induction n with
 | zero => rw [Nat.add_zero, mulG_zero, G.add_zero]
 | succ n ih => rw [← Nat.add_assoc]; show mulG (m + n) p + p = mulG m p + (mulG n p + p); rw [ih, G.assoc]
theorem Rep.zero : Rep (z 0) (z 1) (z 1) (0 : G) := by
 refine ⟨by rw [z_one]; exact one_ne, ?_, ?_⟩
 ·show z 0 = 0 * z 1; rw [z_zero]; grind
 ·show z 1 = 1 * z 1; rw [z_one]; grind
theorem Rep.neg {x y w : F} {g : G} (h : Rep x y w g) : Rep (-x) y w (-g) := by
 obtain ⟨h0, h1, h2⟩ := h
 refine ⟨h0, ?_, h2⟩
 show -x = -g.x * w
 rw [h1]; grind
theorem Rep.add {x y w x' y' w' : F} {g h : G} (p : Rep x y w g) (q : Rep x' y' w' h) {a b t dn up s X Y Z : F} (ha : a = w * w') (hb : b = a * a) (ht : t = cd * ((x * x') * (y * y'))) (hdn : dn = b - t) (hup : up = b + t) (hs : s = x * y' + x' * y)
 (hX : X = a * dn * s) (hY : Y = a * up * (y * y' - x * x')) (hZ : Z = dn * up) : Rep X Y Z (g + h) := by
 obtain ⟨p0, p1, p2⟩ := p
 obtain ⟨q0, q1, q2⟩ := q
 have hu := up_ne cd_no g.on h.on
 have hv := dn_ne cd_no g.on h.on
 have hx := Ed.add_x cd_no g h
 have hy := Ed.add_y cd_no g h
 have ex : (g + h : G).x = (Ed.add cd_no g h).x := rfl
 have ey : (g + h : G).y = (Ed.add cd_no g h).y := rfl
 rw [← ex] at hx; rw [← ey] at hy
 show Z ≠ 0 ∧ X = (g + h : G).x * Z ∧ Y = (g + h : G).y * Z
 generalize (g + h : G).x = gx at *
 generalize (g + h : G).y = gy at *
 generalize hU : 1 + cd * (g.x * h.x * (g.y * h.y)) = U at *
 generalize hV : 1 - cd * (g.x * h.x * (g.y * h.y)) = V at *
 have e1 : up = b * U := by rw [hup, hb, ha, ht, p1, p2, q1, q2, ← hU]; grind
 have e2 : dn = b * V := by rw [hdn, hb, ha, ht, p1, p2, q1, q2, ← hV]; grind
 have hb0 : b ≠ 0 := by rw [hb, ha]; exact mul_ne (mul_ne p0 q0) (mul_ne p0 q0)
 refine ⟨?_, ?_, ?_⟩
 ·rw [hZ, e1, e2]; exact mul_ne (mul_ne hb0 hv) (mul_ne hb0 hu)
 ·have : s = a * (gx * U) := by rw [hs, hx, ha, p1, p2, q1, q2]; grind
  rw [hX, this, hZ, e1, e2, hb]; grind
 ·have : y * y' - x * x' = a * (gy * V) := by rw [hy, ha, p1, p2, q1, q2]; grind
  rw [hY, this, hZ, e1, e2, hb]; grind
theorem mul_neg0 {a b : F} (h : a * -b = 0) : a * b = 0 := by
 have : a * b = -(a * -b) := by grind
 rw [this, h]; grind
theorem Rep.dbl {x y w : F} {g : G} (p : Rep x y w g) {b s j X Y Z : F} (hb : b = (x + y) * (x + y)) (hs : s = x * x + y * y) (hj : j = s - 2 * (w * w)) (hX : X = (b - s) * j) (hY : Y = s * (x * x - y * y)) (hZ : Z = s * j) : Rep X Y Z (g + g) := by
 obtain ⟨p0, p1, p2⟩ := p
 have hu := up_ne cd_no g.on g.on
 have hv := dn_ne cd_no g.on g.on
 have hx := Ed.add_x cd_no g g
 have hy := Ed.add_y cd_no g g
 have ex : (g + g : G).x = (Ed.add cd_no g g).x := rfl
 have ey : (g + g : G).y = (Ed.add cd_no g g).y := rfl
 rw [← ex] at hx; rw [← ey] at hy
 have on := g.on
 show Z ≠ 0 ∧ X = (g + g : G).x * Z ∧ Y = (g + g : G).y * Z
 generalize (g + g : G).x = gx at *
 generalize (g + g : G).y = gy at *
 generalize hU : 1 + cd * (g.x * g.x * (g.y * g.y)) = U at *
 generalize hV : 1 - cd * (g.x * g.x * (g.y * g.y)) = V at *
 have w0 : w * w ≠ 0 := mul_ne p0 p0
 have es : s = (w * w) * U := by rw [hs, p1, p2, ← on]; grind
 have ej : j = -((w * w) * V) := by rw [hj, es, ← hU, ← hV]; grind
 refine ⟨?_, ?_, ?_⟩
 ·rw [hZ, es, ej]
  intro e
  exact mul_ne (mul_ne w0 hu) (mul_ne w0 hv) (mul_neg0 e)
 ·have : b - s = (w * w) * (gx * U) := by rw [hb, hs, hx, p1, p2]; grind
  rw [hX, this, hZ, es]; grind
 ·have : x * x - y * y = -((w * w) * (gy * V)) := by rw [hy, p1, p2]; grind
  rw [hY, this, hZ, ej]; grind
theorem Rep.same {x y w x' y' w' : F} {g h : G} (p : Rep x y w g) (q : Rep x' y' w' h) : (x * w' = x' * w ∧ y * w' = y' * w) ↔ g = h := by
 obtain ⟨p0, p1, p2⟩ := p
 obtain ⟨q0, q1, q2⟩ := q
 have ww := mul_ne p0 q0
 constructor
 ·rintro ⟨h1, h2⟩
  apply Ed.ext'
  ·apply mul_cancel ww
   rw [p1, q1] at h1; grind
  ·apply mul_cancel ww
   rw [p2, q2] at h2; grind
 ·rintro rfl
  rw [p1, q1, p2, q2]; constructor <;> (grind)
theorem Rep.affine {x y w : F} {g : G} (p : Rep x y w g) : x * inv w = g.x ∧ y * inv w = g.y := by
 obtain ⟨p0, p1, p2⟩ := p
 have := mul_inv p0
 rw [p1, p2]; constructor <;> (grind)
theorem Rep.of (g : G) : Rep g.x g.y (z 1) g := by
 refine ⟨by rw [z_one]; exact one_ne, ?_, ?_⟩ <;> rw [z_one] <;> grind

def dblN (p : Nat × Nat × Nat) : Nat × Nat × Nat :=
 let x := p.1; let y := p.2.1; let w := p.2.2
 let c := x * x % P; let e := y * y % P
 let b := (x + y) * (x + y) % P
 let s := (c + e) % P
 let j := (s + (P + P) - 2 * (w * w % P)) % P
 ((b + P - s) % P * j % P, s * ((c + P - e) % P) % P, s * j % P)
def addN (p q : Nat × Nat × Nat) : Nat × Nat × Nat :=
 let a := p.2.2 * q.2.2 % P
 let b := a * a % P
 let c := p.1 * q.1 % P; let e := p.2.1 * q.2.1 % P
 let t := (P - 39081) * (c * e % P) % P
 let dn := (b + P - t) % P; let up := (b + t) % P
 let s := (p.1 * q.2.1 + q.1 * p.2.1) % P
 (a * dn % P * s % P, a * up % P * ((e + P - c) % P) % P, dn * up % P)
def mulN (p : Nat × Nat × Nat) : Nat → Nat → Nat × Nat × Nat
 | 0, _ => (0, 1, 1)
 | f + 1, k =>
  if k = 0 then (0, 1, 1) else
  let h := dblN (mulN p f (k / 2))
  if k % 2 = 0 then h else addN h p
def RepN (p : Nat × Nat × Nat) (g : G) : Prop := Rep (z p.1) (z p.2.1) (z p.2.2) g
theorem z_mod (n : Nat) : z ((n % P : Nat) : Int) = z (n : Int) := by rw [z_eq, Int.natCast_emod, Int.emod_emod_of_dvd _ (Int.dvd_refl _)]
theorem z_mulN (m n : Nat) : z ((m * n : Nat) : Int) = z m * z n := by rw [Int.natCast_mul, z_mul]
theorem z_addN (m n : Nat) : z ((m + n : Nat) : Int) = z m + z n := by rw [Int.natCast_add, z_add]
theorem z_subN (m n k : Nat) (h : n ≤ k * P) : z ((m + k * P - n : Nat) : Int) = z m - z n := by
 have : ((m + k * P - n : Nat) : Int) = (m : Int) - n + (k : Int) * P := by omega
 rw [this, z_add, z_mul, z_P, z_sub]; grind
theorem z_two : z ((2 : Nat) : Int) = 2 := by apply Fin.ext; decide +kernel
theorem z_cd : z ((P - 39081 : Nat) : Int) = cd := by apply Fin.ext; decide +kernel
theorem RepN.dbl {p : Nat × Nat × Nat} {g : G} (h : RepN p g) : RepN (dblN p) (g + g) := by
 obtain ⟨x, y, w⟩ := p
 have s1 : ∀ m n : Nat, z ((m + P - n % P : Nat) : Int) = z m - z n := fun m n => by
  have := z_subN m (n % P) 1 (by have := Nat.mod_lt n P_pos; omega)
  rw [Nat.one_mul] at this; rw [this, z_mod]
 have s2 : ∀ m n : Nat, z ((m + (P + P) - 2 * (n % P) : Nat) : Int) = z m - 2 * z n := fun m n => by
  have := z_subN m (2 * (n % P)) 2 (by have := Nat.mod_lt n P_pos; omega)
  rw [← Nat.two_mul, this, z_mulN, z_mod, z_two]
 refine Rep.dbl (s := z x * z x + z y * z y) (j := z x * z x + z y * z y - 2 * (z w * z w)) h rfl rfl rfl ?_ ?_ ?_ <;> simp only [dblN, z_mod, z_mulN, z_addN, s1, s2]
theorem RepN.add {p q : Nat × Nat × Nat} {g h : G} (hp : RepN p g) (hq : RepN q h) : RepN (addN p q) (g + h) := by
 obtain ⟨x, y, w⟩ := p
 obtain ⟨x', y', w'⟩ := q
 have s1 : ∀ m n : Nat, z ((m + P - n % P : Nat) : Int) = z m - z n := fun m n => by
  have := z_subN m (n % P) 1 (by have := Nat.mod_lt n P_pos; omega)
  rw [Nat.one_mul] at this; rw [this, z_mod]
 refine Rep.add hp hq rfl rfl rfl rfl rfl rfl ?_ ?_ ?_ <;> simp only [addN, z_mod, z_mulN, z_addN, s1, z_cd]
theorem RepN.mul {p : Nat × Nat × Nat} {g : G} (h : RepN p g) : ∀ f k, k < 2 ^ f → RepN (mulN p f k) (mulG k g)
 | 0, k, hk => by
  obtain rfl : k = 0 := by omega
  exact Rep.zero
 | f + 1, k, hk => by
  unfold mulN
  split
  ·rename_i h0; subst h0; exact Rep.zero
  ·have ih := (RepN.mul h f (k / 2) (by omega)).dbl
   rw [← mulG_add] at ih
   split
   ·rename_i h2
    have e : k / 2 + k / 2 = k := by omega
    rw [e] at ih; exact ih
   ·rename_i h2
    have := ih.add h
    have e : k = k / 2 + k / 2 + 1 := by omega
    have e2 : mulG k g = mulG (k / 2 + k / 2) g + g := by conv => lhs; rw [e]
                                                          rfl
    rw [e2]; exact this
def bxN : Nat := 0x4f1970c66bed0ded221d15a622bf36da9e146570470f1767ea6de324a3d3a46412ae1af72ab66511433b80e18b00938e2626a82bc70cc05e
def byN : Nat := 0x693f46716eb6bc248876203756c9c7624bea73736ca3984087789c1e05a0c2d73ad3ff1ce67c39c4fdbd132c4ed7c8ad9808795bf230fa14
def BG : G := ⟨z bxN, z byN, by
 have e : (bxN * bxN + byN * byN) % P = (1 + (P - 39081) * ((bxN * bxN) * (byN * byN))) % P := by decide +kernel
 have e2 := congrArg (fun n : Nat => z (n : Int)) e
 simp only [z_mod, z_addN, z_mulN, z_cd] at e2
 rw [e2, show ((1 : Nat) : Int) = 1 from rfl, z_one]⟩
def TG : G := ⟨1, 0, by grind⟩
theorem neg_neg1 (a : F) : - -a = a := by grind
theorem add_TG (g : G) : (g + TG).x = g.y ∧ (g + TG).y = -g.x := by
 have e : g + TG = (⟨g.y, -g.x, by have := g.on; grind⟩ : G) := by
  apply Ed.add_eq <;> simp only [TG] <;> grind
 rw [e]; exact ⟨rfl, rfl⟩
end Go.Proofs.Ytohebkkiicbdoaa
/- Contracts of points: one value each. -/
namespace Go.Proofs.Ytohebkkiicbdoaa
open Go.RowKit FdP FdP.Ch

def AV.pt? : AV → Option G
 | .ob (.pt g) => some g
 | _ => none
def AV.fpt? : AV → Option G
 | .ob (.fpt g) => some g
 | _ => none
def RP (a : AV) (g : G) : Prop := ∃ x y w, a = .agg [.el x, .el y, .el w] ∧ Rep x y w g
def RF (a : AV) (g : G) : Prop := ∃ x y w, a = .agg [.fg x, .fg y, .fg w] ∧ Rep x y w g
structure Way (o : AV → Option G) (K : G → AV) (R : AV → G → Prop) : Prop where
 opens : ∀ {a g}, o a = some g → ∀ {β : Base} {v : Value}, valR0 β a v → ∃ b, R b g ∧ valR0 β b v
 shuts : ∀ {b g}, R b g → ∀ {β : Base} {v : Value}, valR β b v → valR β (K g) v ∧ valR0 β (K g) v
 plain : ∀ g, (K g).noOwns = true
theorem way_pt : Way AV.pt? (fun g => .ob (.pt g)) RP where
 plain _ := rfl
 opens := by
  intro a g h β v hv
  unfold AV.pt? at h
  split at h
  ·cases h
   obtain ⟨cs, rfl, a, b, c, x, y, w, rfl, ha, hb, hc, hr⟩ := hv.agg rfl
   refine ⟨_, ⟨x, y, w, rfl, hr⟩, valR0.mk rfl ?_⟩
   refine ⟨us a, us b ++ us c, by rw [List.append_assoc], (fun _ h => by cases h), ⟨a, rfl, ha⟩, us b, us c, rfl, (fun _ h => by cases h), ⟨b, rfl, hb⟩, us c, [], by simp, (fun _ h => by cases h), ⟨c, rfl, hc⟩, rfl⟩
  ·cases h
 shuts := by
  rintro b g ⟨x, y, w, rfl, hr⟩ β v hv
  have : valR0 β (.ob (.pt g)) v := by
   obtain ⟨cs, rfl, hc⟩ := valR0.agg (a := .agg [.el x, .el y, .el w]) hv rfl
   obtain ⟨c1, d1, e1, _, ⟨a, rfl, ha⟩, c2, d2, e2, _, ⟨b, rfl, hb⟩, c3, d3, e3, _, ⟨c, rfl, hc⟩, e4⟩ := hc
   simp only [cellsRs] at e4
   refine valR0.mk rfl ⟨a, b, c, x, y, w, ?_, ha, hb, hc, hr⟩
   rw [e1, e2, e3, e4, List.append_nil, List.append_assoc]
  exact ⟨this, this⟩
theorem way_fpt : Way AV.fpt? (fun g => .ob (.fpt g)) RF where
 plain _ := rfl
 opens := by
  intro a g h β v hv
  unfold AV.fpt? at h
  split at h
  ·cases h
   obtain ⟨cs, rfl, x, y, w, rfl, hr⟩ := hv.agg rfl
   refine ⟨_, ⟨x, y, w, rfl, hr⟩, valR0.mk rfl ?_⟩
   refine ⟨is (dgs x), is (dgs y) ++ is (dgs w), by rw [List.append_assoc], (fun _ h => by cases h), rfl, is (dgs y), is (dgs w), rfl, (fun _ h => by cases h), rfl, is (dgs w), [], by simp, (fun _ h => by cases h), rfl, rfl⟩
  ·cases h
 shuts := by
  rintro b g ⟨x, y, w, rfl, hr⟩ β v hv
  have : valR0 β (.ob (.fpt g)) v := by
   obtain ⟨cs, rfl, hc⟩ := valR0.agg (a := .agg [.fg x, .fg y, .fg w]) hv rfl
   obtain ⟨c1, d1, e1, _, ha, c2, d2, e2, _, hb, c3, d3, e3, _, hc, e4⟩ := hc
   simp only [cellsRs] at e4
   simp only [cellsR] at ha hb hc
   subst ha hb hc
   refine valR0.mk rfl ⟨x, y, w, ?_, hr⟩
   rw [e1, e2, e3, e4, List.append_nil, List.append_assoc]
  exact ⟨this, this⟩

section
variable (o : AV → Option G) (K : G → AV)
def tG0 (g : G) : Trans := fun zs Q => match zs with
 | [] => Q (K g)
 | _ => False
def tG2 (f : G → G → G) : Trans := fun zs Q => match zs with
 | [a, b] => (match o a, o b with
  | some g, some h => Q (K (f g h))
  | _, _ => False)
 | _ => False
def tGq (f : G → (AV → Prop) → Prop) : Trans := fun zs Q => match zs with
 | [a] => (match o a with
  | some g => f g Q
  | none => False)
 | _ => False
end
section
variable {P : Program} {fn : FuncId} {o : AV → Option G} {K : G → AV} {R : AV → G → Prop} {g0 : Trans}
theorem con_G0 (hw : Way o K R) {g : G} (hc : Con P fn g0) (hm : g0 [] (fun r => R r g)) : Con P fn (tG0 K g) := by
 intro w x vals zs Q hx hv hg
 unfold tG0 at hg
 split at hg
 ·exact (hc w x vals [] _ hx hv hm).mono fun e w' ⟨v, a, he, hr, h, hF⟩ => OutA.mk he (hw.shuts h hr.R).1 hg hF (hw.plain _)
 ·exact hg.elim
theorem con_G2 (hw : Way o K R) {f : G → G → G} (hc : Con P fn g0) (hm : ∀ a b g h, R a g → R b h → g0 [a, b] (fun r => R r (f g h))) : Con P fn (tG2 o K f) := by
 intro w x vals zs Q hx hv hg
 unfold tG2 at hg
 split at hg
 ·obtain ⟨v0, u0, e0, r0, v1, u1, e1, r1, q1⟩ := hv
  split at hg
  ·rename_i g h h0 h1
   obtain ⟨a, ha, hav⟩ := hw.opens h0 r0
   obtain ⟨b, hb, hbv⟩ := hw.opens h1 r1
   exact (hc w x vals [a, b] _ hx ⟨v0, u0, e0, hav, v1, u1, e1, hbv, q1⟩ (hm a b g h ha hb)).mono fun e w' ⟨v, a, he, hr, h, hF⟩ => OutA.mk he (hw.shuts h hr.R).1 hg hF (hw.plain _)
  ·exact hg.elim
 ·exact hg.elim
theorem con_Gq (hw : Way o K R) {f : G → (AV → Prop) → Prop} (hc : Con P fn g0) (hm : ∀ a g Q, R a g → f g Q → g0 [a] Q) : Con P fn (tGq o f) := by
 intro w x vals zs Q hx hv hg
 unfold tGq at hg
 split at hg
 ·obtain ⟨v0, u0, e0, r0, q0⟩ := hv
  split at hg
  ·rename_i g h0
   obtain ⟨b, hb, hbv⟩ := hw.opens h0 r0
   exact hc w x vals [b] _ hx ⟨v0, u0, e0, hbv, q0⟩ (hm b g Q hb hg)
  ·exact hg.elim
 ·exact hg.elim
end
noncomputable def ofP (x y : F) : G := open Classical in if h : x * x + y * y = 1 + cd * ((x * x) * (y * y)) then ⟨x, y, h⟩ else 0
theorem ofP_x {x y : F} (h : x * x + y * y = 1 + cd * ((x * x) * (y * y))) : (ofP x y).x = x ∧ (ofP x y).y = y := by
 unfold ofP; rw [dif_pos h]; exact ⟨rfl, rfl⟩
theorem ofP_eq (g : G) : ofP g.x g.y = g := Ed.ext' (ofP_x g.on).1 (ofP_x g.on).2
def tOf (e : Int) : Trans := fun zs Q => match zs with
 | [a, b] => (match a.el?, b.el? with
  | some x, some y => Sel (dec (x * x + y * y = 1 + cd * ((x * x) * (y * y)))) (Q (.tup [.ob (.pt (ofP x y)), .int .i64 0])) (Q (.tup [.lit (List.replicate 24 (.int .u64 0)), .int .i64 e]))
  | _, _ => False)
 | _ => False
theorem el_open {a : AV} {x : F} {β : Base} {v : Value} (h : a.el? = some x) (hv : valR0 β a v) : valR0 β (.el x) v := by
 obtain ⟨l, rfl, hE⟩ := el_inv h hv
 exact valR0.mk (a := .el x) rfl ⟨l, rfl, hE⟩
theorem con_Of {P : Program} {fn : FuncId} {g0 : Trans} {e : Int} (hc : Con P fn g0)
 (hm : ∀ x y (Q : AV → Prop), Sel (dec (x * x + y * y = 1 + cd * ((x * x) * (y * y)))) (Q (.tup [.agg [.el x, .el y, .el (z 1)], .int .i64 0])) (Q (.tup [.lit (List.replicate 24 (.int .u64 0)), .int .i64 e])) → g0 [.el x, .el y] Q) : Con P fn (tOf e) := by
 intro w x vals zs Q hx hv hg
 unfold tOf at hg
 split at hg
 ·obtain ⟨v0, u0, e0, r0, v1, u1, e1, r1, q1⟩ := hv
  split at hg
  ·rename_i a b h0 h1
   refine (hc w x vals [.el a, .el b] (fun r => ∃ s, Q s ∧ s.noOwns = true ∧ ∀ (β : Base) v, valR β r v → valR β s v) hx ⟨v0, u0, e0, el_open h0 r0, v1, u1, e1, el_open h1 r1, q1⟩ (hm a b _ ⟨fun h => ?_, fun h => ?_⟩)).mono fun e w' ⟨v, a, he, hr, ⟨s, hs, hso, hss⟩, hF⟩ => OutA.mk he (hss _ _ hr.R) hs hF hso
   ·refine ⟨_, hg.yes h, rfl, fun β v hv => ?_⟩
    obtain ⟨vs, rfl, u0, w0, e0, r0, q0⟩ := hv
    refine ⟨vs, rfl, u0, w0, e0, ?_, q0⟩
    have on := dec_iff.1 h
    exact (way_pt.shuts (b := .agg [.el a, .el b, .el (z 1)]) ⟨a, b, z 1, rfl, by have := Rep.of (ofP a b); rw [(ofP_x on).1, (ofP_x on).2] at this; exact this⟩ r0).2
   ·exact ⟨_, hg.no h, rfl, fun β v hv => hv⟩
  ·exact hg.elim
 ·exact hg.elim
end Go.Proofs.Ytohebkkiicbdoaa
