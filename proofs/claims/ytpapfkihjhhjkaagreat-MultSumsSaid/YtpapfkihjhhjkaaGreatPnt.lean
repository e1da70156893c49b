/- Contracts of points -/
import Derived.Test.YtpapfkihjhhjkaaGreatJ13
import Derived.Test.YtpapfkihjhhjkaaGreatVr
set_option linter.unusedSimpArgs false
set_option linter.unusedVariables false
namespace Go.Proofs.YtpapfkihjhhjkaaGreat
open Go.RowKit FdP FdP.Ch
theorem mulc (a : F) : a * z (-39081) = cd * a := by show a * cd = cd * a; grind
theorem sjoin (x y a b : F) : (x + y) * (a + b) - x * a - y * b = x * b + a * y := by grind
theorem z_int2 (a : F) : a * z 2 = 2 * a := by have := z_two; rw [show ((2 : Nat) : Int) = 2 from rfl] at this; rw [this]; grind
def tbl8 : Tab := tb_add :: tb_sub :: tb_mul :: tb_square :: tb_neg :: tb_times :: tb_int :: tb_equal :: tb_zero :: tb_inverse :: tb_select :: tb_fof :: []
theorem tbl8_ok : tbl8.OK Tryz.prog := tab_cons tb_add_ok <| tab_cons tb_sub_ok <| tab_cons tb_mul_ok <| tab_cons tb_square_ok <| tab_cons tb_neg_ok <| tab_cons tb_times_ok <| tab_cons tb_int_ok <| tab_cons tb_equal_ok <| tab_cons tb_zero_ok <| tab_cons tb_inverse_ok <| tab_cons tb_select_ok <| tab_cons tb_fof_ok <| tab_nil _
def o_apadd : Orc := { ans := [(13, oV), (14, oA 8), (15, oV), (16, oA 8), (17, oA 8), (18, oA 8), (19, oA 8), (20, oV), (21, oA 8), (22, oV), (23, oA 8), (24, oA 8), (25, oV), (26, oA 8), (27, oV), (28, oA 8), (29, oA 8), (30, oA 8), (31, oA 8), (32, oA 8), (33, oA 8), (34, oA 8), (35, oA 8), (36, oA 8), (37, oA 8), (38, oA 8), (39, oA 8), (40, oV), (41, oA 8), (42, oV), (43, oA 8), (44, oA 8), (45, oV), (46, oA 8), (47, oV), (48, oA 8), (49, oA 8), (50, oA 8), (51, oA 8), (52, oA 8), (53, oA 8), (54, oA 8), (55, oA 8), (56, oA 8), (57, oA 8), (58, oA 8), (59, oA 8), (60, oA 8), (61, oA 8), (62, oA 8), (63, oA 8), (64, oA 8), (65, oA 8), (66, oA 8), (67, oA 8), (68, oA 8), (69, oA 8)], lps := [], ords := [(3, [.quiet 0, .quiet 1, .quiet 2, .quiet 3, .quiet 5, .quiet 6, .quiet 7, .quiet 8, .call 4 [10, 11], .call 9 [10, 11], .make 10 [11], .make 11 [], .last 12, .last 13]), (5, [.quiet 0, .quiet 1, .quiet 3, .quiet 4, .call 2 [6, 7], .call 5 [6, 7], .make 6 [7], .make 7 [], .last 8, .last 9]), (6, [.quiet 0, .quiet 1, .quiet 2, .quiet 3, .quiet 5, .quiet 6, .quiet 7, .quiet 8, .quiet 11, .quiet 13, .call 4 [15], .call 9 [15], .call 10 [15], .call 12 [15], .call 14 [15], .make 15 [], .last 16]), (7, [.quiet 0, .quiet 1, .quiet 3, .quiet 5, .quiet 6, .quiet 8, .quiet 9, .quiet 12, .quiet 13, .call 2 [], .call 4 [], .call 7 [], .call 10 [], .call 11 [], .call 14 [], .quiet 15, .last 16])] }
def t_apadd : Tree :=
 .new <|
 .new <|
 .new <|
 .call 66 [.agg [.whole 2 8], .agg [.whole 5 8]] ([], []) (.leaf (.agg [.whole 6 8])) 1 [] <|
 .new <|
 .call 48 [.agg [.whole 6 8]] ([], []) (.leaf (.agg [.whole 7 8])) 1 [] <|
 .new <|
 .call 66 [.agg [.whole 0 8], .agg [.whole 3 8]] ([], []) (.leaf (.agg [.whole 8 8])) 1 [] <|
 .call 66 [.agg [.whole 1 8], .agg [.whole 4 8]] ([], []) (.leaf (.agg [.whole 9 8])) 1 [] <|
 .new <|
 .new <|
 .call 66 [.agg [.whole 8 8], .agg [.whole 9 8]] ([], []) (.leaf (.agg [.whole 10 8])) 1 [] <|
 .call 51 [.agg [.whole 10 8], .atom (.const (.int .i64 (-39081)))] ([], []) (.leaf (.agg [.whole 11 8])) 1 [] <|
 .new <|
 .call 50 [.agg [.whole 7 8], .agg [.whole 11 8]] ([], []) (.leaf (.agg [.whole 12 8])) 1 [] <|
 .call 67 [.agg [.whole 7 8], .agg [.whole 11 8]] ([], []) (.leaf (.agg [.whole 13 8])) 1 [] <|
 .new <|
 .new <|
 .call 67 [.agg [.whole 0 8], .agg [.whole 1 8]] ([], []) (.leaf (.agg [.whole 14 8])) 1 [] <|
 .call 67 [.agg [.whole 3 8], .agg [.whole 4 8]] ([], []) (.leaf (.agg [.whole 15 8])) 1 [] <|
 .call 66 [.agg [.whole 14 8], .agg [.whole 15 8]] ([], []) (.leaf (.agg [.whole 16 8])) 1 [] <|
 .call 50 [.agg [.whole 16 8], .agg [.whole 8 8]] ([], []) (.leaf (.agg [.whole 17 8])) 1 [] <|
 .call 50 [.agg [.whole 17 8], .agg [.whole 9 8]] ([], []) (.leaf (.agg [.whole 18 8])) 1 [] <|
 .new <|
 .call 66 [.agg [.whole 6 8], .agg [.whole 12 8]] ([], []) (.leaf (.agg [.whole 19 8])) 1 [] <|
 .call 66 [.agg [.whole 19 8], .agg [.whole 18 8]] ([], []) (.leaf (.agg [.whole 20 8])) 1 [] <|
 .call 66 [.agg [.whole 6 8], .agg [.whole 13 8]] ([], []) (.leaf (.agg [.whole 21 8])) 1 [] <|
 .call 50 [.agg [.whole 9 8], .agg [.whole 8 8]] ([], []) (.leaf (.agg [.whole 22 8])) 1 [] <|
 .call 66 [.agg [.whole 21 8], .agg [.whole 22 8]] ([], []) (.leaf (.agg [.whole 23 8])) 1 [] <|
 .call 66 [.agg [.whole 12 8], .agg [.whole 13 8]] ([], []) (.leaf (.agg [.whole 24 8])) 1 [] <|
 .ret ([], []) (.leaf (.agg [.whole 20 8, .whole 23 8, .whole 24 8]))
theorem c_apadd : compF Tryz.prog Tryz.f26 o_apadd (Tryz.f26.body.getD .skip) (symIn [.agg [.whole 0 8, .whole 1 8, .whole 2 8], .agg [.whole 3 8, .whole 4 8, .whole 5 8]] Tryz.f26.ntmps 6) = some t_apadd := by kernel_rfl
theorem g_apadd : goodC Tryz.prog o_apadd.ords (Tryz.f26.body.getD .skip) = true := by kernel_rfl
def tb_apadd : FuncId × Trans := (26, auto Tryz.prog tbl8 [.agg [.whole 0 8, .whole 1 8, .whole 2 8], .agg [.whole 3 8, .whole 4 8, .whole 5 8]] 6 t_apadd)
theorem tb_apadd_ok : Con Tryz.prog tb_apadd.1 tb_apadd.2 := con_tree tbl8_ok o_apadd [.agg [.whole 0 8, .whole 1 8, .whole 2 8], .agg [.whole 3 8, .whole 4 8, .whole 5 8]] 6 Tryz.func26 rfl c_apadd (fun _ _ h => h) g_apadd
def tb_padd : FuncId × Trans := (26, tG2 AV.pt? (fun g => .ob (.pt g)) (· + ·))
set_option maxRecDepth 100000 in
theorem tb_padd_ok : Con Tryz.prog tb_padd.1 tb_padd.2 := con_G2 way_pt tb_apadd_ok (by
 rintro _ _ g h ⟨x, y, w, rfl, p⟩ ⟨x', y', w', rfl, q⟩
 repeat ((conv => whnf) <;> first | refine ⟨rfl, ?_⟩ | refine ⟨⟨by decide, by decide⟩, ?_⟩)
 (conv => whnf)
 exact ⟨_, _, _, rfl, Rep.add p q rfl rfl (mulc _) rfl rfl (sjoin _ _ _ _) rfl rfl rfl⟩)
def o_apdbl : Orc := { ans := [(8, oV), (9, oA 8), (10, oV), (11, oA 8), (12, oA 8), (13, oA 8), (14, oV), (15, oA 8), (16, oA 8), (17, oV), (18, oA 8), (19, oA 8), (20, oA 8), (21, oA 8), (22, oA 8), (23, oA 8), (24, oV), (25, oA 8), (26, oA 8), (27, oA 8), (28, oA 8), (29, oA 8), (30, oA 8), (31, oA 8), (32, oA 8), (33, oA 8), (34, oA 8), (35, oA 8), (36, oA 8), (37, oA 8), (38, oA 8), (39, oA 8), (40, oA 8), (41, oA 8)], lps := [], ords := [(2, [.quiet 0, .quiet 1, .quiet 3, .quiet 4, .call 2 [6, 7], .call 5 [6, 7], .make 6 [7], .make 7 [], .last 8, .last 9]), (4, [.quiet 0, .quiet 1, .quiet 2, .call 3 [6], .call 4 [6], .call 5 [6], .make 6 [], .last 7]), (5, [.quiet 0, .quiet 1, .quiet 3, .quiet 5, .quiet 6, .quiet 7, .quiet 10, .quiet 11, .call 2 [], .call 4 [], .call 8 [], .call 9 [], .call 12 [], .quiet 13, .last 14])] }
def t_apdbl : Tree :=
 .new <|
 .new <|
 .call 67 [.agg [.whole 0 8], .agg [.whole 1 8]] ([], []) (.leaf (.agg [.whole 3 8])) 1 [] <|
 .call 48 [.agg [.whole 3 8]] ([], []) (.leaf (.agg [.whole 4 8])) 1 [] <|
 .new <|
 .call 48 [.agg [.whole 0 8]] ([], []) (.leaf (.agg [.whole 5 8])) 1 [] <|
 .call 48 [.agg [.whole 1 8]] ([], []) (.leaf (.agg [.whole 6 8])) 1 [] <|
 .new <|
 .new <|
 .call 67 [.agg [.whole 5 8], .agg [.whole 6 8]] ([], []) (.leaf (.agg [.whole 7 8])) 1 [] <|
 .new <|
 .call 48 [.agg [.whole 2 8]] ([], []) (.leaf (.agg [.whole 8 8])) 1 [] <|
 .call 51 [.agg [.whole 8 8], .atom (.const (.int .i64 2))] ([], []) (.leaf (.agg [.whole 9 8])) 1 [] <|
 .call 50 [.agg [.whole 7 8], .agg [.whole 9 8]] ([], []) (.leaf (.agg [.whole 10 8])) 1 [] <|
 .new <|
 .call 50 [.agg [.whole 4 8], .agg [.whole 7 8]] ([], []) (.leaf (.agg [.whole 11 8])) 1 [] <|
 .call 66 [.agg [.whole 11 8], .agg [.whole 10 8]] ([], []) (.leaf (.agg [.whole 12 8])) 1 [] <|
 .call 50 [.agg [.whole 5 8], .agg [.whole 6 8]] ([], []) (.leaf (.agg [.whole 13 8])) 1 [] <|
 .call 66 [.agg [.whole 7 8], .agg [.whole 13 8]] ([], []) (.leaf (.agg [.whole 14 8])) 1 [] <|
 .call 66 [.agg [.whole 7 8], .agg [.whole 10 8]] ([], []) (.leaf (.agg [.whole 15 8])) 1 [] <|
 .ret ([], []) (.leaf (.agg [.whole 12 8, .whole 14 8, .whole 15 8]))
theorem c_apdbl : compF Tryz.prog Tryz.f27 o_apdbl (Tryz.f27.body.getD .skip) (symIn [.agg [.whole 0 8, .whole 1 8, .whole 2 8]] Tryz.f27.ntmps 3) = some t_apdbl := by kernel_rfl
theorem g_apdbl : goodC Tryz.prog o_apdbl.ords (Tryz.f27.body.getD .skip) = true := by kernel_rfl
def tb_apdbl : FuncId × Trans := (27, auto Tryz.prog tbl8 [.agg [.whole 0 8, .whole 1 8, .whole 2 8]] 3 t_apdbl)
theorem tb_apdbl_ok : Con Tryz.prog tb_apdbl.1 tb_apdbl.2 := con_tree tbl8_ok o_apdbl [.agg [.whole 0 8, .whole 1 8, .whole 2 8]] 3 Tryz.func27 rfl c_apdbl (fun _ _ h => h) g_apdbl
def tb_pdbl : FuncId × Trans := (27, tG1 AV.pt? (fun g => .ob (.pt g)) (fun g => g + g))
set_option maxRecDepth 100000 in
theorem tb_pdbl_ok : Con Tryz.prog tb_pdbl.1 tb_pdbl.2 := con_G1 way_pt tb_apdbl_ok (by
 rintro _ g ⟨x, y, w, rfl, p⟩
 repeat ((conv => whnf) <;> first | refine ⟨rfl, ?_⟩ | refine ⟨⟨by decide, by decide⟩, ?_⟩)
 (conv => whnf)
 exact ⟨_, _, _, rfl, Rep.dbl p rfl rfl (congrArg (fun t => x * x + y * y - t) (z_int2 (w * w))) rfl rfl rfl⟩)
def o_apneg : Orc := { ans := [(3, oV), (4, oA 8), (5, oA 8), (6, oV), (7, oA 8), (8, oV), (9, oA 8)], lps := [], ords := [(1, [.quiet 0, .quiet 1, .quiet 3, .quiet 4, .quiet 5, .quiet 6, .call 2 [], .quiet 7, .last 8])] }
def t_apneg : Tree :=
 .new <|
 .new <|
 .call 55 [.agg [.whole 0 8]] ([], []) (.leaf (.agg [.whole 3 8])) 1 [] <|
 .ret ([], []) (.leaf (.agg [.whole 3 8, .whole 1 8, .whole 2 8]))
theorem c_apneg : compF Tryz.prog Tryz.f28 o_apneg (Tryz.f28.body.getD .skip) (symIn [.agg [.whole 0 8, .whole 1 8, .whole 2 8]] Tryz.f28.ntmps 3) = some t_apneg := by kernel_rfl
theorem g_apneg : goodC Tryz.prog o_apneg.ords (Tryz.f28.body.getD .skip) = true := by kernel_rfl
def tb_apneg : FuncId × Trans := (28, auto Tryz.prog tbl8 [.agg [.whole 0 8, .whole 1 8, .whole 2 8]] 3 t_apneg)
theorem tb_apneg_ok : Con Tryz.prog tb_apneg.1 tb_apneg.2 := con_tree tbl8_ok o_apneg [.agg [.whole 0 8, .whole 1 8, .whole 2 8]] 3 Tryz.func28 rfl c_apneg (fun _ _ h => h) g_apneg
def tb_pneg : FuncId × Trans := (28, tG1 AV.pt? (fun g => .ob (.pt g)) (fun g => -g))
set_option maxRecDepth 100000 in
theorem tb_pneg_ok : Con Tryz.prog tb_pneg.1 tb_pneg.2 := con_G1 way_pt tb_apneg_ok (by
 rintro _ g ⟨x, y, w, rfl, p⟩
 repeat ((conv => whnf) <;> first | refine ⟨rfl, ?_⟩ | refine ⟨⟨by decide, by decide⟩, ?_⟩)
 (conv => whnf)
 exact ⟨_, _, _, rfl, p.neg⟩)
def o_apeq : Orc := { ans := [(5, oV), (6, oA 8), (7, oV), (8, oA 8), (9, oA 8), (10, oV), (11, oA 8), (12, oV), (13, oA 8), (14, oA 8), (15, oB), (17, oV), (18, oA 8), (19, oV), (20, oA 8), (21, oA 8), (22, oV), (23, oA 8), (24, oV), (25, oA 8), (26, oA 8), (27, oB), (28, oV)], lps := [], ords := [(1, [.quiet 0, .quiet 1, .quiet 2, .quiet 3, .quiet 5, .quiet 6, .quiet 7, .quiet 8, .call 4 [], .call 9 [], .call 10 [], .pure 11, .quiet 12, .quiet 13, .quiet 14, .quiet 15, .quiet 17, .quiet 18, .quiet 19, .quiet 20, .call 16 [], .call 21 [], .call 22 [], .quiet 23, .pure 24])] }
def t_apeq : Tree :=
 .new <|
 .new <|
 .call 66 [.agg [.whole 0 8], .agg [.whole 5 8]] ([], []) (.leaf (.agg [.whole 6 8])) 1 [] <|
 .call 66 [.agg [.whole 3 8], .agg [.whole 2 8]] ([], []) (.leaf (.agg [.whole 7 8])) 1 [] <|
 .call2 65 [.agg [.whole 6 8], .agg [.whole 7 8]] ([], []) qT 0 [] (
 .call 66 [.agg [.whole 1 8], .agg [.whole 5 8]] ([], []) (.leaf (.agg [.whole 8 8])) 1 [] <|
 .call 66 [.agg [.whole 4 8], .agg [.whole 2 8]] ([], []) (.leaf (.agg [.whole 9 8])) 1 [] <|
 .call2 65 [.agg [.whole 8 8], .agg [.whole 9 8]] ([], []) qT 0 [] (
 .ret ([], []) qT) qF 0 [] <|
 .ret ([], []) qF) qF 0 [] <|
 .ret ([], []) qF
theorem c_apeq : compF Tryz.prog Tryz.f25 o_apeq (Tryz.f25.body.getD .skip) (symIn [.agg [.whole 0 8, .whole 1 8, .whole 2 8], .agg [.whole 3 8, .whole 4 8, .whole 5 8]] Tryz.f25.ntmps 6) = some t_apeq := by kernel_rfl
theorem g_apeq : goodC Tryz.prog o_apeq.ords (Tryz.f25.body.getD .skip) = true := by kernel_rfl
def tb_apeq : FuncId × Trans := (25, auto Tryz.prog tbl8 [.agg [.whole 0 8, .whole 1 8, .whole 2 8], .agg [.whole 3 8, .whole 4 8, .whole 5 8]] 6 t_apeq)
theorem tb_apeq_ok : Con Tryz.prog tb_apeq.1 tb_apeq.2 := con_tree tbl8_ok o_apeq [.agg [.whole 0 8, .whole 1 8, .whole 2 8], .agg [.whole 3 8, .whole 4 8, .whole 5 8]] 6 Tryz.func25 rfl c_apeq (fun _ _ h => h) g_apeq
def tb_peq : FuncId × Trans := (25, tGB2 AV.pt? (fun g h => dec (g = h)))
set_option maxRecDepth 100000 in
theorem tb_peq_ok : Con Tryz.prog tb_peq.1 tb_peq.2 := con_GB2 way_pt tb_apeq_ok (by
 rintro _ _ g h ⟨x, y, w, rfl, p⟩ ⟨x', y', w', rfl, q⟩
 repeat ((conv => whnf) <;> first | refine ⟨rfl, ?_⟩ | refine ⟨⟨by decide, by decide⟩, ?_⟩)
 (conv => whnf)
 have s := Rep.same p q
 by_cases e : g = h
 ·obtain ⟨h1, h2⟩ := s.2 e
  refine cTe h1 ?_
  repeat ((conv => whnf) <;> first | refine ⟨rfl, ?_⟩ | refine ⟨⟨by decide, by decide⟩, ?_⟩)
  (conv => whnf)
  refine cTe h2 ?_
  repeat ((conv => whnf) <;> first | refine ⟨rfl, ?_⟩ | refine ⟨⟨by decide, by decide⟩, ?_⟩)
  (conv => whnf)
  rw [dec_true e]
 ·refine cD (fun h1 => ?_) (fun _ => ?_)
  ·(conv => whnf)
   refine cFe (fun h2 => e (s.1 ⟨h1, h2⟩)) ?_
   repeat ((conv => whnf) <;> first | refine ⟨rfl, ?_⟩ | refine ⟨⟨by decide, by decide⟩, ?_⟩)
   (conv => whnf)
   rw [dec_false e]
  ·(conv => whnf)
   rw [dec_false e])
def o_apid : Orc := { ans := [(1, oA 8), (2, oA 8), (3, oA 8)], lps := [] }
def t_apid : Tree :=
 .new <|
 .call 39 [.atom (.const (.int .i64 0))] ([], []) (.leaf (.agg [.whole 0 8])) 1 [] <|
 .call 39 [.atom (.const (.int .i64 1))] ([], []) (.leaf (.agg [.whole 1 8])) 1 [] <|
 .call 39 [.atom (.const (.int .i64 1))] ([], []) (.leaf (.agg [.whole 2 8])) 1 [] <|
 .ret ([], []) (.leaf (.agg [.whole 0 8, .whole 1 8, .whole 2 8]))
theorem c_apid : compF Tryz.prog Tryz.f16 o_apid (Tryz.f16.body.getD .skip) (symIn [] Tryz.f16.ntmps 0) = some t_apid := by kernel_rfl
theorem g_apid : goodC Tryz.prog o_apid.ords (Tryz.f16.body.getD .skip) = true := by kernel_rfl
def tb_apid : FuncId × Trans := (16, auto Tryz.prog tbl8 [] 0 t_apid)
theorem tb_apid_ok : Con Tryz.prog tb_apid.1 tb_apid.2 := con_tree tbl8_ok o_apid [] 0 Tryz.func16 rfl c_apid (fun _ _ h => h) g_apid
def tb_pid : FuncId × Trans := (16, tG0 (fun g => .ob (.pt g)) 0)
set_option maxRecDepth 100000 in
theorem tb_pid_ok : Con Tryz.prog tb_pid.1 tb_pid.2 := con_G0 way_pt tb_apid_ok (by
 repeat ((conv => whnf) <;> first | refine ⟨rfl, ?_⟩ | refine ⟨⟨by decide, by decide⟩, ?_⟩)
 (conv => whnf)
 exact ⟨_, _, _, rfl, Rep.zero⟩)
def o_aff1 : Orc := { ans := [(4, oA 8), (5, oA 8), (6, oA 8)], lps := [] }
def t_aff1 : Tree :=
 .new <|
 .new <|
 .calc (.load 28 (.tmp 1)) 28 [(1, qv 1)] ([], []) (.leaf (.agg [.whole 2 8])) 1 <|
 .call 66 [.agg [.whole 0 8], .agg [.whole 2 8]] ([], []) (.leaf (.agg [.whole 3 8])) 1 [] <|
 .ret ([], []) (.leaf (.agg [.whole 3 8]))
theorem c_aff1 : compF Tryz.prog Tryz.f99 o_aff1 (Tryz.f99.body.getD .skip) (symIn [.agg [.whole 0 8], .atom (.var 1)] Tryz.f99.ntmps 2) = some t_aff1 := by kernel_rfl
theorem g_aff1 : goodC Tryz.prog o_aff1.ords (Tryz.f99.body.getD .skip) = true := by kernel_rfl
def tb_aff1 : FuncId × Trans := (99, auto Tryz.prog tbl8 [.agg [.whole 0 8], .atom (.var 1)] 2 t_aff1)
theorem tb_aff1_ok : Con Tryz.prog tb_aff1.1 tb_aff1.2 := con_tree tbl8_ok o_aff1 [.agg [.whole 0 8], .atom (.var 1)] 2 Tryz.func99 rfl c_aff1 (fun _ _ h => h) g_aff1
def tbl8a : Tab := tb_aff1 :: tbl8
theorem tbl8a_ok : tbl8a.OK Tryz.prog := tab_cons tb_aff1_ok <| tbl8_ok
def o_apaff : Orc := { ans := [(6, oV), (7, oA 8), (8, oA 8), (11, oV), (12, oA 8), (13, oA 8), (15, oV), (16, oA 8), (17, oA 8)], lps := [], ords := [(3, [.pure 0, .quiet 1, .quiet 2, .pure 4, .quiet 5, .quiet 6, .call 3 [], .call 7 [], .last 8, .last 9])] }
def t_apaff : Tree :=
 .new <|
 .new <|
 .new <|
 .call 98 [.agg [.whole 2 8]] ([], []) (.leaf (.agg [.whole 3 8])) 1 [] <|
 .new <|
 .call 99 [.agg [.whole 0 8], .atom (.ptr 3 0)] ([([.whole 0 8, .whole 1 8, .whole 2 8], 30), ([.lit [.int .u64 0, .int .u64 0, .int .u64 0, .int .u64 0, .int .u64 0, .int .u64 0, .int .u64 0, .int .u64 0]], 28), ([.lit [.int .u64 0, .int .u64 0, .int .u64 0, .int .u64 0, .int .u64 0, .int .u64 0, .int .u64 0, .int .u64 0]], 28), ([.whole 3 8], 28)], []) (.leaf (.agg [.whole 4 8])) 1 [] <|
 .call 99 [.agg [.whole 1 8], .atom (.ptr 3 0)] ([([.whole 0 8, .whole 1 8, .whole 2 8], 30), ([.lit [.int .u64 0, .int .u64 0, .int .u64 0, .int .u64 0, .int .u64 0, .int .u64 0, .int .u64 0, .int .u64 0]], 28), ([.lit [.int .u64 0, .int .u64 0, .int .u64 0, .int .u64 0, .int .u64 0, .int .u64 0, .int .u64 0, .int .u64 0]], 28), ([.whole 3 8], 28)], []) (.leaf (.agg [.whole 5 8])) 1 [] <|
 .ret ([], []) (.tup [.agg [.whole 4 8], .agg [.whole 5 8]])
theorem c_apaff : compF Tryz.prog Tryz.f70 o_apaff (Tryz.f70.body.getD .skip) (symIn [.agg [.whole 0 8, .whole 1 8, .whole 2 8]] Tryz.f70.ntmps 3) = some t_apaff := by kernel_rfl
theorem g_apaff : goodC Tryz.prog o_apaff.ords (Tryz.f70.body.getD .skip) = true := by kernel_rfl
def tb_apaff : FuncId × Trans := (70, auto Tryz.prog tbl8a [.agg [.whole 0 8, .whole 1 8, .whole 2 8]] 3 t_apaff)
theorem tb_apaff_ok : Con Tryz.prog tb_apaff.1 tb_apaff.2 := con_tree tbl8a_ok o_apaff [.agg [.whole 0 8, .whole 1 8, .whole 2 8]] 3 Tryz.func70 rfl c_apaff (fun _ _ h => h) g_apaff
def tb_paff : FuncId × Trans := (70, tGq AV.pt? (fun g Q => Q (.tup [.el g.x, .el g.y])))
set_option maxRecDepth 100000 in
theorem tb_paff_ok : Con Tryz.prog tb_paff.1 tb_paff.2 := con_Gq way_pt tb_apaff_ok (by
 rintro _ g Q ⟨x, y, w, rfl, p⟩ h
 repeat ((conv => whnf) <;> first | refine ⟨rfl, ?_⟩ | refine ⟨⟨by decide, by decide⟩, ?_⟩)
 (conv => whnf)
 have e := p.affine
 rw [← e.1, ← e.2] at h
 exact h)
def o_apof : Orc := { ans := [(8, oA 8), (9, oA 8), (10, oA 8), (11, oA 8), (12, oA 8), (13, oA 8), (14, oA 8), (15, oA 8), (16, oA 8), (17, oA 8), (18, oA 8), (19, oA 8), (20, oA 8), (21, oB), (22, oV), (24, oA 8), (25, oA 8), (26, oA 8)], lps := [], ords := [(1, [.quiet 0, .quiet 2, .call 1 [4, 5], .call 3 [4, 5], .make 4 [5], .make 5 [], .last 6, .last 7]), (2, [.quiet 0, .quiet 1, .quiet 4, .quiet 5, .call 2 [], .call 3 [], .call 6 [], .call 7 [], .call 8 [], .call 9 [], .quiet 10]), (4, [.quiet 0, .quiet 1, .call 2 [], .quiet 3, .last 4, .last 5])] }
def t_apof : Tree :=
 .new <|
 .new <|
 .new <|
 .call 48 [.agg [.whole 0 8]] ([], []) (.leaf (.agg [.whole 2 8])) 1 [] <|
 .call 48 [.agg [.whole 1 8]] ([], []) (.leaf (.agg [.whole 3 8])) 1 [] <|
 .new <|
 .new <|
 .call 67 [.agg [.whole 2 8], .agg [.whole 3 8]] ([], []) (.leaf (.agg [.whole 4 8])) 1 [] <|
 .call 39 [.atom (.const (.int .i64 1))] ([], []) (.leaf (.agg [.whole 5 8])) 1 [] <|
 .call 66 [.agg [.whole 2 8], .agg [.whole 3 8]] ([], []) (.leaf (.agg [.whole 6 8])) 1 [] <|
 .call 51 [.agg [.whole 6 8], .atom (.const (.int .i64 (-39081)))] ([], []) (.leaf (.agg [.whole 7 8])) 1 [] <|
 .call 67 [.agg [.whole 5 8], .agg [.whole 7 8]] ([], []) (.leaf (.agg [.whole 8 8])) 1 [] <|
 .call2 65 [.agg [.whole 4 8], .agg [.whole 8 8]] ([], []) qT 0 [] (
 .call 39 [.atom (.const (.int .i64 1))] ([], []) (.leaf (.agg [.whole 9 8])) 1 [] <|
 .ret ([], []) (.tup [.agg [.whole 0 8, .whole 1 8, .whole 9 8], .atom (.const (.int .i64 0))])) qF 0 [] <|
 .ret ([], []) (.tup [.agg [.lit [.int .u64 0, .int .u64 0, .int .u64 0, .int .u64 0, .int .u64 0, .int .u64 0, .int .u64 0, .int .u64 0, .int .u64 0, .int .u64 0, .int .u64 0, .int .u64 0, .int .u64 0, .int .u64 0, .int .u64 0, .int .u64 0, .int .u64 0, .int .u64 0, .int .u64 0, .int .u64 0, .int .u64 0, .int .u64 0, .int .u64 0, .int .u64 0]], .atom (.const (.int .i64 13))])
theorem c_apof : compF Tryz.prog Tryz.f53 o_apof (Tryz.f53.body.getD .skip) (symIn [.agg [.whole 0 8], .agg [.whole 1 8]] Tryz.f53.ntmps 2) = some t_apof := by kernel_rfl
theorem g_apof : goodC Tryz.prog o_apof.ords (Tryz.f53.body.getD .skip) = true := by kernel_rfl
def tb_apof : FuncId × Trans := (53, auto Tryz.prog tbl8 [.agg [.whole 0 8], .agg [.whole 1 8]] 2 t_apof)
theorem tb_apof_ok : Con Tryz.prog tb_apof.1 tb_apof.2 := con_tree tbl8_ok o_apof [.agg [.whole 0 8], .agg [.whole 1 8]] 2 Tryz.func53 rfl c_apof (fun _ _ h => h) g_apof
def tb_pof : FuncId × Trans := (53, tOf 13)
set_option maxRecDepth 100000 in
theorem tb_pof_ok : Con Tryz.prog tb_pof.1 tb_pof.2 := con_Of tb_apof_ok (by
 intro x y Q h
 repeat ((conv => whnf) <;> first | refine ⟨rfl, ?_⟩ | refine ⟨⟨by decide, by decide⟩, ?_⟩)
 (conv => whnf)
 have e : (x * x + y * y = z 1 + x * x * (y * y) * z (-39081)) = (x * x + y * y = 1 + cd * ((x * x) * (y * y))) := by rw [mulc, z_one]
 refine ⟨fun hh => ?_, fun hh => ?_⟩
 ·skip
  repeat ((conv => whnf) <;> first | refine ⟨rfl, ?_⟩ | refine ⟨⟨by decide, by decide⟩, ?_⟩)
  (conv => whnf)
  exact h.yes (by rw [← e]; exact hh)
 ·skip
  repeat ((conv => whnf) <;> first | refine ⟨rfl, ?_⟩ | refine ⟨⟨by decide, by decide⟩, ?_⟩)
  (conv => whnf)
  exact h.no (by rw [← e]; exact hh))
def o_apick : Orc := { ans := [(7, oV), (8, oV), (9, oA 8), (10, oA 8), (11, oA 8)], lps := [] }
def t_apick : Tree :=
 .new <|
 .new <|
 .new <|
 .new <|
 .call 54 [.atom (.var 0), .agg [.whole 1 8], .agg [.whole 2 8]] ([], []) (.leaf (.agg [.whole 3 8])) 1 [] <|
 .ret ([], []) (.leaf (.agg [.whole 3 8]))
theorem c_apick : compF Tryz.prog Tryz.f92 o_apick (Tryz.f92.body.getD .skip) (symIn [.agg [.one (.var 0)], .agg [.whole 1 8], .agg [.whole 2 8]] Tryz.f92.ntmps 3) = some t_apick := by kernel_rfl
theorem g_apick : goodC Tryz.prog o_apick.ords (Tryz.f92.body.getD .skip) = true := by kernel_rfl
def tb_apick : FuncId × Trans := (92, auto Tryz.prog tbl8 [.agg [.one (.var 0)], .agg [.whole 1 8], .agg [.whole 2 8]] 3 t_apick)
theorem tb_apick_ok : Con Tryz.prog tb_apick.1 tb_apick.2 := con_tree tbl8_ok o_apick [.agg [.one (.var 0)], .agg [.whole 1 8], .agg [.whole 2 8]] 3 Tryz.func92 rfl c_apick (fun _ _ h => h) g_apick
def tbl8s : Tab := tb_apick :: tbl8
theorem tbl8s_ok : tbl8s.OK Tryz.prog := tab_cons tb_apick_ok <| tbl8_ok
def o_apsel : Orc := { ans := [(12, oV), (13, oA 8), (14, oV), (15, oA 8), (16, oA 8), (18, oV), (19, oA 8), (20, oV), (21, oA 8), (22, oA 8), (24, oV), (25, oA 8), (26, oV), (27, oA 8), (28, oA 8)], lps := [], ords := [(2, [.pure 0, .quiet 1, .quiet 2, .quiet 3, .quiet 4, .pure 6, .quiet 7, .quiet 8, .quiet 9, .quiet 10, .pure 12, .quiet 13, .quiet 14, .quiet 15, .quiet 16, .call 5 [], .call 11 [], .call 17 [], .quiet 18, .last 19])] }
def t_apsel : Tree :=
 .new <|
 .new <|
 .new <|
 .call 92 [.agg [.one (.var 0)], .agg [.whole 1 8], .agg [.whole 4 8]] ([], []) (.leaf (.agg [.whole 7 8])) 1 [] <|
 .call 92 [.agg [.one (.var 0)], .agg [.whole 2 8], .agg [.whole 5 8]] ([], []) (.leaf (.agg [.whole 8 8])) 1 [] <|
 .call 92 [.agg [.one (.var 0)], .agg [.whole 3 8], .agg [.whole 6 8]] ([], []) (.leaf (.agg [.whole 9 8])) 1 [] <|
 .ret ([], []) (.leaf (.agg [.whole 7 8, .whole 8 8, .whole 9 8]))
theorem c_apsel : compF Tryz.prog Tryz.f64 o_apsel (Tryz.f64.body.getD .skip) (symIn [.atom (.var 0), .agg [.whole 1 8, .whole 2 8, .whole 3 8], .agg [.whole 4 8, .whole 5 8, .whole 6 8]] Tryz.f64.ntmps 7) = some t_apsel := by kernel_rfl
theorem g_apsel : goodC Tryz.prog o_apsel.ords (Tryz.f64.body.getD .skip) = true := by kernel_rfl
def tb_apsel : FuncId × Trans := (64, auto Tryz.prog tbl8s [.atom (.var 0), .agg [.whole 1 8, .whole 2 8, .whole 3 8], .agg [.whole 4 8, .whole 5 8, .whole 6 8]] 7 t_apsel)
theorem tb_apsel_ok : Con Tryz.prog tb_apsel.1 tb_apsel.2 := con_tree tbl8s_ok o_apsel [.atom (.var 0), .agg [.whole 1 8, .whole 2 8, .whole 3 8], .agg [.whole 4 8, .whole 5 8, .whole 6 8]] 7 Tryz.func64 rfl c_apsel (fun _ _ h => h) g_apsel
def tb_psel : FuncId × Trans := (64, tGs AV.pt? (fun g => .ob (.pt g)))
set_option maxRecDepth 100000 in
theorem tb_psel_ok : Con Tryz.prog tb_psel.1 tb_psel.2 := con_Gs way_pt tb_apsel_ok (by
 rintro n _ _ g h ⟨x, y, w, rfl, p⟩ ⟨x', y', w', rfl, q⟩
 repeat ((conv => whnf) <;> first | refine ⟨rfl, ?_⟩ | refine ⟨⟨by decide, by decide⟩, ?_⟩)
 (conv => whnf)
 refine ⟨_, _, _, rfl, ?_⟩
 by_cases e : n % 2 = 0
 ·simp only [if_pos e]; exact p
 ·simp only [if_neg e]; exact q)
end Go.Proofs.YtpapfkihjhhjkaaGreat
