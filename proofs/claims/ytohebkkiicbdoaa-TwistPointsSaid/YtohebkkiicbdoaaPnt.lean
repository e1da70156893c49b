/- Contracts of points -/
import Derived.Test.YtohebkkiicbdoaaJ13
import Derived.Test.YtohebkkiicbdoaaVr
set_option linter.unusedSimpArgs false
set_option linter.unusedVariables false
namespace Go.Proofs.Ytohebkkiicbdoaa
open Go.RowKit FdP FdP.Ch
theorem mulc (a : F) : a * z (-39081) = cd * a := by show a * cd = cd * a; grind
def tbl8 : Tab := tb_add :: tb_sub :: tb_mul :: tb_square :: tb_neg :: tb_times :: tb_int :: tb_equal :: tb_zero :: tb_inverse :: tb_select :: tb_fof :: []
theorem tbl8_ok : tbl8.OK Try.prog := tab_cons tb_add_ok <| tab_cons tb_sub_ok <| tab_cons tb_mul_ok <| tab_cons tb_square_ok <| tab_cons tb_neg_ok <| tab_cons tb_times_ok <| tab_cons tb_int_ok <| tab_cons tb_equal_ok <| tab_cons tb_zero_ok <| tab_cons tb_inverse_ok <| tab_cons tb_select_ok <| tab_cons tb_fof_ok <| tab_nil _
def o_apid : Orc := { ans := [(1, oA 8), (2, oA 8), (3, oA 8)], lps := [] }
def t_apid : Tree :=
 .new <|
 .call 33 [.atom (.const (.int .i64 0))] ([], []) (.leaf (.agg [.whole 0 8])) 1 [] <|
 .call 33 [.atom (.const (.int .i64 1))] ([], []) (.leaf (.agg [.whole 1 8])) 1 [] <|
 .call 33 [.atom (.const (.int .i64 1))] ([], []) (.leaf (.agg [.whole 2 8])) 1 [] <|
 .ret ([], []) (.leaf (.agg [.whole 0 8, .whole 1 8, .whole 2 8]))
theorem c_apid : compF Try.prog Try.f38 o_apid (Try.f38.body.getD .skip) (symIn [] Try.f38.ntmps 0) = some t_apid := by kernel_rfl
theorem g_apid : goodC Try.prog o_apid.ords (Try.f38.body.getD .skip) = true := by kernel_rfl
def tb_apid : FuncId × Trans := (38, auto Try.prog tbl8 [] 0 t_apid)
theorem tb_apid_ok : Con Try.prog tb_apid.1 tb_apid.2 := con_tree tbl8_ok o_apid [] 0 Try.func38 rfl c_apid (fun _ _ h => h) g_apid
def tb_pid : FuncId × Trans := (38, tG0 (fun g => .ob (.pt g)) 0)
set_option maxRecDepth 100000 in
theorem tb_pid_ok : Con Try.prog tb_pid.1 tb_pid.2 := con_G0 way_pt tb_apid_ok (by
 repeat ((conv => whnf) <;> first | refine ⟨rfl, ?_⟩ | refine ⟨⟨by decide, by decide⟩, ?_⟩)
 (conv => whnf)
 exact ⟨_, _, _, rfl, Rep.zero⟩)
def o_aff1 : Orc := { ans := [(4, oA 8), (5, oA 8), (6, oA 8)], lps := [] }
def t_aff1 : Tree :=
 .new <|
 .new <|
 .calc (.load 29 (.tmp 1)) 29 [(1, qv 1)] ([], []) (.leaf (.agg [.whole 2 8])) 1 <|
 .call 57 [.agg [.whole 0 8], .agg [.whole 2 8]] ([], []) (.leaf (.agg [.whole 3 8])) 1 [] <|
 .ret ([], []) (.leaf (.agg [.whole 3 8]))
theorem c_aff1 : compF Try.prog Try.f66 o_aff1 (Try.f66.body.getD .skip) (symIn [.agg [.whole 0 8], .atom (.var 1)] Try.f66.ntmps 2) = some t_aff1 := by kernel_rfl
theorem g_aff1 : goodC Try.prog o_aff1.ords (Try.f66.body.getD .skip) = true := by kernel_rfl
def tb_aff1 : FuncId × Trans := (66, auto Try.prog tbl8 [.agg [.whole 0 8], .atom (.var 1)] 2 t_aff1)
theorem tb_aff1_ok : Con Try.prog tb_aff1.1 tb_aff1.2 := con_tree tbl8_ok o_aff1 [.agg [.whole 0 8], .atom (.var 1)] 2 Try.func66 rfl c_aff1 (fun _ _ h => h) g_aff1
def tbl8a : Tab := tb_aff1 :: tbl8
theorem tbl8a_ok : tbl8a.OK Try.prog := tab_cons tb_aff1_ok <| tbl8_ok
def o_apaff : Orc := { ans := [(6, oV), (7, oA 8), (8, oA 8), (11, oV), (12, oA 8), (13, oA 8), (15, oV), (16, oA 8), (17, oA 8)], lps := [], ords := [(3, [.pure 0, .quiet 1, .quiet 2, .pure 4, .quiet 5, .quiet 6, .call 3 [], .call 7 [], .last 8, .last 9])] }
def t_apaff : Tree :=
 .new <|
 .new <|
 .new <|
 .call 65 [.agg [.whole 2 8]] ([], []) (.leaf (.agg [.whole 3 8])) 1 [] <|
 .new <|
 .call 66 [.agg [.whole 0 8], .atom (.ptr 3 0)] ([([.whole 0 8, .whole 1 8, .whole 2 8], 38), ([.lit [.int .u64 0, .int .u64 0, .int .u64 0, .int .u64 0, .int .u64 0, .int .u64 0, .int .u64 0, .int .u64 0]], 29), ([.lit [.int .u64 0, .int .u64 0, .int .u64 0, .int .u64 0, .int .u64 0, .int .u64 0, .int .u64 0, .int .u64 0]], 29), ([.whole 3 8], 29)], []) (.leaf (.agg [.whole 4 8])) 1 [] <|
 .call 66 [.agg [.whole 1 8], .atom (.ptr 3 0)] ([([.whole 0 8, .whole 1 8, .whole 2 8], 38), ([.lit [.int .u64 0, .int .u64 0, .int .u64 0, .int .u64 0, .int .u64 0, .int .u64 0, .int .u64 0, .int .u64 0]], 29), ([.lit [.int .u64 0, .int .u64 0, .int .u64 0, .int .u64 0, .int .u64 0, .int .u64 0, .int .u64 0, .int .u64 0]], 29), ([.whole 3 8], 29)], []) (.leaf (.agg [.whole 5 8])) 1 [] <|
 .ret ([], []) (.tup [.agg [.whole 4 8], .agg [.whole 5 8]])
theorem c_apaff : compF Try.prog Try.f24 o_apaff (Try.f24.body.getD .skip) (symIn [.agg [.whole 0 8, .whole 1 8, .whole 2 8]] Try.f24.ntmps 3) = some t_apaff := by kernel_rfl
theorem g_apaff : goodC Try.prog o_apaff.ords (Try.f24.body.getD .skip) = true := by kernel_rfl
def tb_apaff : FuncId × Trans := (24, auto Try.prog tbl8a [.agg [.whole 0 8, .whole 1 8, .whole 2 8]] 3 t_apaff)
theorem tb_apaff_ok : Con Try.prog tb_apaff.1 tb_apaff.2 := con_tree tbl8a_ok o_apaff [.agg [.whole 0 8, .whole 1 8, .whole 2 8]] 3 Try.func24 rfl c_apaff (fun _ _ h => h) g_apaff
def tb_paff : FuncId × Trans := (24, tGq AV.pt? (fun g Q => Q (.tup [.el g.x, .el g.y])))
set_option maxRecDepth 100000 in
theorem tb_paff_ok : Con Try.prog tb_paff.1 tb_paff.2 := con_Gq way_pt tb_apaff_ok (by
 rintro _ g Q ⟨x, y, w, rfl, p⟩ h
 repeat ((conv => whnf) <;> first | refine ⟨rfl, ?_⟩ | refine ⟨⟨by decide, by decide⟩, ?_⟩)
 (conv => whnf)
 have e := p.affine
 rw [← e.1, ← e.2] at h
 exact h)
def o_apof : Orc := { ans := [(8, oA 8), (9, oA 8), (10, oA 8), (11, oA 8), (12, oA 8), (13, oA 8), (14, oA 8), (15, oA 8), (16, oA 8), (17, oA 8), (18, oA 8), (19, oA 8), (20, oA 8), (21, oB), (22, oV), (24, oA 8), (25, oA 8), (26, oA 8)], lps := [], ords := [(1, [.quiet 0, .quiet 2, .call 1 [4, 5], .call 3 [4, 5], .make 4 [5], .make 5 [], .last 6, .last 7]), (2, [.quiet 0, .quiet 1, .quiet 4, .quiet 5, .call 2 [], .call 3 [], .call 6 [], .call 7 [], .call 8 [], .call 9 [], .quiet 10]), (4, [.quiet 0, .quiet 1, .call 2 [], .quiet 3, .last 4, .last 5])] }
def t_apof : Tree :=
 .new <|
 .new <|
 .new <|
 .call 47 [.agg [.whole 0 8]] ([], []) (.leaf (.agg [.whole 2 8])) 1 [] <|
 .call 47 [.agg [.whole 1 8]] ([], []) (.leaf (.agg [.whole 3 8])) 1 [] <|
 .new <|
 .new <|
 .call 49 [.agg [.whole 2 8], .agg [.whole 3 8]] ([], []) (.leaf (.agg [.whole 4 8])) 1 [] <|
 .call 33 [.atom (.const (.int .i64 1))] ([], []) (.leaf (.agg [.whole 5 8])) 1 [] <|
 .call 57 [.agg [.whole 2 8], .agg [.whole 3 8]] ([], []) (.leaf (.agg [.whole 6 8])) 1 [] <|
 .call 56 [.agg [.whole 6 8], .atom (.const (.int .i64 (-39081)))] ([], []) (.leaf (.agg [.whole 7 8])) 1 [] <|
 .call 49 [.agg [.whole 5 8], .agg [.whole 7 8]] ([], []) (.leaf (.agg [.whole 8 8])) 1 [] <|
 .call2 58 [.agg [.whole 4 8], .agg [.whole 8 8]] ([], []) qT 0 [] (
 .call 33 [.atom (.const (.int .i64 1))] ([], []) (.leaf (.agg [.whole 9 8])) 1 [] <|
 .ret ([], []) (.tup [.agg [.whole 0 8, .whole 1 8, .whole 9 8], .atom (.const (.int .i64 0))])) qF 0 [] <|
 .ret ([], []) (.tup [.agg [.lit [.int .u64 0, .int .u64 0, .int .u64 0, .int .u64 0, .int .u64 0, .int .u64 0, .int .u64 0, .int .u64 0, .int .u64 0, .int .u64 0, .int .u64 0, .int .u64 0, .int .u64 0, .int .u64 0, .int .u64 0, .int .u64 0, .int .u64 0, .int .u64 0, .int .u64 0, .int .u64 0, .int .u64 0, .int .u64 0, .int .u64 0, .int .u64 0]], .atom (.const (.int .i64 13))])
theorem c_apof : compF Try.prog Try.f37 o_apof (Try.f37.body.getD .skip) (symIn [.agg [.whole 0 8], .agg [.whole 1 8]] Try.f37.ntmps 2) = some t_apof := by kernel_rfl
theorem g_apof : goodC Try.prog o_apof.ords (Try.f37.body.getD .skip) = true := by kernel_rfl
def tb_apof : FuncId × Trans := (37, auto Try.prog tbl8 [.agg [.whole 0 8], .agg [.whole 1 8]] 2 t_apof)
theorem tb_apof_ok : Con Try.prog tb_apof.1 tb_apof.2 := con_tree tbl8_ok o_apof [.agg [.whole 0 8], .agg [.whole 1 8]] 2 Try.func37 rfl c_apof (fun _ _ h => h) g_apof
def tb_pof : FuncId × Trans := (37, tOf 13)
set_option maxRecDepth 100000 in
theorem tb_pof_ok : Con Try.prog tb_pof.1 tb_pof.2 := con_Of tb_apof_ok (by
 intro x y Q h
 repeat ((conv => whnf) <;> first | refine ⟨rfl, ?_⟩ | refine ⟨⟨by decide, by decide⟩, ?_⟩)
 (conv => whnf)
 have e : (x * x + y * y = z 1 + x * x * (y * y) * z (-39081)) = (x * x + y * y = 1 + cd * ((x * x) * (y * y))) := by rw [mulc, z_one]
 refine ⟨fun hh => ?_, fun hh => ?_⟩
 ·skip
  repeat ((conv => whnf) <;> first | refine ⟨rfl, ?_⟩ | refine ⟨⟨by decide, by decide⟩, ?_⟩)
  (conv => whnf)
  exact h.yes (by rw [← e]; exact hh)
 ·skip
  repeat ((conv => whnf) <;> first | refine ⟨rfl, ?_⟩ | refine ⟨⟨by decide, by decide⟩, ?_⟩)
  (conv => whnf)
  exact h.no (by rw [← e]; exact hh))
end Go.Proofs.Ytohebkkiicbdoaa
