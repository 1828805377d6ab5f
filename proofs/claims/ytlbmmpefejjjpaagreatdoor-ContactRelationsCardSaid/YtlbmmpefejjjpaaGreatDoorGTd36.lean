/- Parts of the proof. -/
import Derived.Test.YtlbmmpefejjjpaaGreatDoorGOw36
import Derived.Test.YtlbmmpefejjjpaaGreatDoorTi36
import Derived.Test.YtlbmmpefejjjpaaGreatDoorGEwD
import Derived.Test.YtlbmmpefejjjpaaGreatDoorGNo36

set_option linter.unusedSimpArgs false
set_option linter.unusedVariables false
section
open Go Ev
namespace Ev.Td
set_option maxRecDepth 100000
def lst : List (Nat × IFn) := [(3, I.I3), (4, I.I4), (5, I.I5), (6, I.I6), (7, I.I7), (8, I.I8), (9, I.I9), (10, I.I10), (11, I.I11), (12, I.I12), (13, I.I13), (14, I.I14), (15, I.I15), (16, I.I16), (17, I.I17), (18, I.I18), (19, I.I19), (20, I.I20), (22, I.I22), (25, I.I25), (26, I.I26), (27, I.I27), (29, I.I29), (30, I.I30), (31, I.I31), (32, I.I32), (33, I.I33), (34, I.I34), (36, I.I36), (37, I.I37), (38, I.I38), (41, I.I41), (42, I.I42), (43, I.I43), (45, I.I45), (48, I.I48), (49, I.I49), (50, I.I50), (51, I.I51), (58, I.I58), (59, I.I59), (60, I.I60), (61, I.I61), (62, I.I62), (63, I.I63), (64, I.I64), (65, I.I65), (66, I.I66), (67, I.I67), (76, I.I76), (77, I.I77), (78, I.I78), (80, I.I80), (84, I.I84), (85, I.I85), (86, I.I86), (93, I.I93), (94, I.I94), (96, I.I96), (97, I.I97), (98, I.I98), (99, I.I99), (100, I.I100), (101, I.I101), (102, I.I102), (103, I.I103), (104, I.I104), (105, I.I105), (106, I.I106), (114, I.I114), (123, I.I123), (126, I.I126), (134, I.I134), (135, I.I135), (147, I.I147), (148, I.I148), (149, I.I149), (150, I.I150), (151, I.I151), (155, I.I155), (156, I.I156), (157, I.I157), (158, I.I158), (159, I.I159), (160, I.I160), (161, I.I161), (162, I.I162), (163, I.I163), (164, I.I164), (168, I.I168), (169, I.I169), (172, I.I172), (177, I.I177), (182, I.I182), (194, I.I194), (197, I.I197), (198, I.I198), (199, I.I199), (202, I.I202), (203, I.I203), (204, I.I204), (207, I.I207), (208, I.I208), (209, I.I209), (227, I.I227), (228, I.I228), (230, I.I230), (232, I.I232), (235, I.I235), (236, I.I236), (239, I.I239), (247, I.I247), (253, I.I253), (254, I.I254), (255, I.I255), (257, I.I257), (262, I.I262), (264, I.I264), (265, I.I265), (266, I.I266), (268, I.I268), (270, I.I270), (271, I.I271), (272, I.I272), (280, I.I280), (281, I.I281), (283, I.I283), (288, I.I288), (289, I.I289), (298, I.I298), (300, I.I300), (302, I.I302)]
theorem mem : ∀ e ∈ lst, codeAt Go.Proofs.Tryz.prog e.1 = some e.2 := (mem_cons Ti.t3 (mem_cons Ti.t4 (mem_cons Ti.t5 (mem_cons Ti.t6 (mem_cons Ti.t7 (mem_cons Ti.t8 (mem_cons Ti.t9 (mem_cons Ti.t10 (mem_cons Ti.t11 (mem_cons Ti.t12 (mem_cons Ti.t13 (mem_cons Ti.t14 (mem_cons Ti.t15 (mem_cons Ti.t16 (mem_cons Ti.t17 (mem_cons Ti.t18 (mem_cons Ti.t19 (mem_cons Ti.t20 (mem_cons Ti.t22 (mem_cons Ti.t25 (mem_cons Ti.t26 (mem_cons Ti.t27 (mem_cons Ti.t29 (mem_cons Ti.t30 (mem_cons Ti.t31 (mem_cons Ti.t32 (mem_cons Ti.t33 (mem_cons Ti.t34 (mem_cons Ti.t36 (mem_cons Ti.t37 (mem_cons Ti.t38 (mem_cons Ti.t41 (mem_cons Ti.t42 (mem_cons Ti.t43 (mem_cons Ti.t45 (mem_cons Ti.t48 (mem_cons Ti.t49 (mem_cons Ti.t50 (mem_cons Ti.t51 (mem_cons Ti.t58 (mem_cons Ti.t59 (mem_cons Ti.t60 (mem_cons Ti.t61 (mem_cons Ti.t62 (mem_cons Ti.t63 (mem_cons Ti.t64 (mem_cons Ti.t65 (mem_cons Ti.t66 (mem_cons Ti.t67 (mem_cons Ti.t76 (mem_cons Ti.t77 (mem_cons Ti.t78 (mem_cons Ti.t80 (mem_cons Ti.t84 (mem_cons Ti.t85 (mem_cons Ti.t86 (mem_cons Ti.t93 (mem_cons Ti.t94 (mem_cons Ti.t96 (mem_cons Ti.t97 (mem_cons Ti.t98 (mem_cons Ti.t99 (mem_cons Ti.t100 (mem_cons Ti.t101 (mem_cons Ti.t102 (mem_cons Ti.t103 (mem_cons Ti.t104 (mem_cons Ti.t105 (mem_cons Ti.t106 (mem_cons Ti.t114 (mem_cons Ti.t123 (mem_cons Ti.t126 (mem_cons Ti.t134 (mem_cons Ti.t135 (mem_cons Ti.t147 (mem_cons Ti.t148 (mem_cons Ti.t149 (mem_cons Ti.t150 (mem_cons Ti.t151 (mem_cons Ti.t155 (mem_cons Ti.t156 (mem_cons Ti.t157 (mem_cons Ti.t158 (mem_cons Ti.t159 (mem_cons Ti.t160 (mem_cons Ti.t161 (mem_cons Ti.t162 (mem_cons Ti.t163 (mem_cons Ti.t164 (mem_cons Ti.t168 (mem_cons Ti.t169 (mem_cons Ti.t172 (mem_cons Ti.t177 (mem_cons Ti.t182 (mem_cons Ti.t194 (mem_cons Ti.t197 (mem_cons Ti.t198 (mem_cons Ti.t199 (mem_cons Ti.t202 (mem_cons Ti.t203 (mem_cons Ti.t204 (mem_cons Ti.t207 (mem_cons Ti.t208 (mem_cons Ti.t209 (mem_cons Ti.t227 (mem_cons Ti.t228 (mem_cons Ti.t230 (mem_cons Ti.t232 (mem_cons Ti.t235 (mem_cons Ti.t236 (mem_cons Ti.t239 (mem_cons Ti.t247 (mem_cons Ti.t253 (mem_cons Ti.t254 (mem_cons Ti.t255 (mem_cons Ti.t257 (mem_cons Ti.t262 (mem_cons Ti.t264 (mem_cons Ti.t265 (mem_cons Ti.t266 (mem_cons Ti.t268 (mem_cons Ti.t270 (mem_cons Ti.t271 (mem_cons Ti.t272 (mem_cons Ti.t280 (mem_cons Ti.t281 (mem_cons Ti.t283 (mem_cons Ti.t288 (mem_cons Ti.t289 (mem_cons Ti.t298 (mem_cons Ti.t300 (mem_cons Ti.t302 mem_nil))))))))))))))))))))))))))))))))))))))))))))))))))))))))))))))))))))))))))))))))))))))))))))))))))))))))))))))))))))))))))))))))))))
theorem fns_eq : fns36 = fnsOf lst := by kernel_rfl
theorem tied : Tied Go.Proofs.Tryz.prog fns36 := tied_of lst mem fns_eq
end Ev.Td
end

/- The oracles of this program. -/
section
namespace Ev.Or
open Go Ev
set_option maxRecDepth 100000
noncomputable abbrev P36 : Program := Go.Proofs.Tryz.prog

theorem mixed : P36.follows .mixedOrders = true := by kernel_rfl
noncomputable def fn (k : Nat) : Func := (P36.funcs[k]?).getD default
theorem o292 {B : Base} : OrcOK B P36 292 oIdx :=
  ext_ok (fn := fn 292) (by kernel_rfl) (by kernel_rfl) (by intro h; have : ((fn 292).name == "runtime.NumGoroutine") = false := by kernel_rfl
                                                            simp [h] at this) (by kernel_rfl) (by kernel_rfl) (fun h ha => indexByte_ok (oIdx_eq h) ha)
theorem o311 {B : Base} : OrcOK B P36 311 oSame :=
  ext_ok (fn := fn 311) (by kernel_rfl) (by kernel_rfl) (by intro h; have : ((fn 311).name == "runtime.NumGoroutine") = false := by kernel_rfl
                                                            simp [h] at this) (by kernel_rfl) (by kernel_rfl) (fun h ha => same_ok h ha)
theorem o282 {B : Base} : OrcOK B P36 282 oCompare :=
  ext_ok (fn := fn 282) (by kernel_rfl) (by kernel_rfl) (by intro h; have : ((fn 282).name == "runtime.NumGoroutine") = false := by kernel_rfl
                                                            simp [h] at this) (by kernel_rfl) (by kernel_rfl) (fun h ha => compare_ok h ha)
/-- The powers of ten: package variable 1. -/
def pow : List AV := [1, 10, 100, 1000, 10000, 100000, 1000000, 10000000, 100000000, 1000000000, 10000000000, 100000000000, 1000000000000, 10000000000000, 100000000000000, 1000000000000000, 10000000000000000, 100000000000000000, 1000000000000000000, 10000000000000000000].map fun n => .int .u64 (.ofNat n)

noncomputable def lA : List (Nat × Orc) := [(292, oIdx), (311, oSame), (282, oCompare), (150, Ou.oOuter)]
noncomputable def orcA : Nat → Option Orc := orcL lA
theorem lA_ok {B : Base} : ∀ e ∈ lA, OrcOK B P36 e.1 e.2 := by
  intro e he
  simp only [lA, List.mem_cons, List.not_mem_nil, or_false] at he
  rcases he with rfl | rfl | rfl | rfl
  · exact o292
  · exact o311
  · exact o282
  · exact Ou.outer_ok mixed B
theorem orcA_ok (B : Base) : ∀ f o, orcA f = some o → OrcOK B P36 f o := orcL_ok lA_ok
noncomputable def evA : Tg → List AV → T ARow → Nat → Option R := evCall orcA fns36 100000 200
end Ev.Or
end
