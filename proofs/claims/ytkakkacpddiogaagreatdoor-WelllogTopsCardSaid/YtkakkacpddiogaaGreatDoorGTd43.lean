/- Parts of the proof. -/
import Derived.Test.YtkakkacpddiogaaGreatDoorGEf43
import Derived.Test.YtkakkacpddiogaaGreatDoorTi43
import Derived.Test.YtkakkacpddiogaaGreatDoorGEwD

set_option linter.unusedSimpArgs false
set_option linter.unusedVariables false
section
open Go Ev
namespace Ev.Td
set_option maxRecDepth 100000
def lst : List (Nat × IFn) := [(3, I.I3), (4, I.I4), (5, I.I5), (6, I.I6), (7, I.I7), (8, I.I8), (9, I.I9), (10, I.I10), (11, I.I11), (12, I.I12), (13, I.I13), (14, I.I14), (15, I.I15), (16, I.I16), (17, I.I17), (18, I.I18), (19, I.I19), (20, I.I20), (21, I.I21), (22, I.I22), (23, I.I23), (24, I.I24), (25, I.I25), (26, I.I26), (27, I.I27), (28, I.I28), (29, I.I29), (30, I.I30), (31, I.I31), (32, I.I32), (33, I.I33), (34, I.I34), (35, I.I35), (36, I.I36), (37, I.I37), (38, I.I38), (39, I.I39), (40, I.I40), (41, I.I41), (42, I.I42), (43, I.I43), (44, I.I44), (45, I.I45), (46, I.I46), (47, I.I47), (48, I.I48), (49, I.I49), (50, I.I50), (51, I.I51), (52, I.I52), (53, I.I53), (54, I.I54), (55, I.I55), (56, I.I56), (57, I.I57), (58, I.I58), (59, I.I59), (60, I.I60), (61, I.I61), (62, I.I62), (63, I.I63), (64, I.I64), (65, I.I65), (66, I.I66), (67, I.I67), (68, I.I68), (69, I.I69), (70, I.I70), (71, I.I71), (72, I.I72), (73, I.I73), (74, I.I74), (75, I.I75), (76, I.I76), (77, I.I77), (78, I.I78), (79, I.I79), (80, I.I80), (81, I.I81), (82, I.I82), (83, I.I83), (84, I.I84), (85, I.I85), (86, I.I86), (87, I.I87), (88, I.I88), (89, I.I89), (90, I.I90), (91, I.I91), (92, I.I92), (93, I.I93), (94, I.I94), (95, I.I95), (96, I.I96), (97, I.I97), (98, I.I98), (99, I.I99), (100, I.I100), (101, I.I101), (102, I.I102), (103, I.I103), (104, I.I104), (105, I.I105), (106, I.I106), (107, I.I107), (108, I.I108), (109, I.I109), (110, I.I110), (111, I.I111), (112, I.I112), (113, I.I113), (114, I.I114), (115, I.I115), (116, I.I116), (117, I.I117), (118, I.I118), (119, I.I119), (120, I.I120), (121, I.I121), (122, I.I122), (123, I.I123), (124, I.I124), (125, I.I125), (126, I.I126), (127, I.I127), (128, I.I128), (129, I.I129), (130, I.I130), (131, I.I131), (132, I.I132), (133, I.I133), (134, I.I134), (135, I.I135), (136, I.I136), (137, I.I137), (138, I.I138), (139, I.I139), (141, I.I141), (142, I.I142), (143, I.I143), (144, I.I144), (145, I.I145), (146, I.I146), (147, I.I147), (148, I.I148), (149, I.I149), (150, I.I150), (151, I.I151), (152, I.I152), (153, I.I153), (154, I.I154), (155, I.I155), (156, I.I156), (157, I.I157), (158, I.I158), (159, I.I159), (160, I.I160), (161, I.I161), (162, I.I162), (163, I.I163), (164, I.I164), (165, I.I165), (166, I.I166), (167, I.I167), (168, I.I168), (169, I.I169), (171, I.I171), (172, I.I172), (173, I.I173), (174, I.I174), (175, I.I175), (176, I.I176), (177, I.I177), (178, I.I178), (180, I.I180), (181, I.I181), (182, I.I182), (183, I.I183), (184, I.I184), (185, I.I185), (186, I.I186), (189, I.I189), (190, I.I190), (191, I.I191), (192, I.I192), (193, I.I193), (194, I.I194), (195, I.I195), (196, I.I196), (197, I.I197), (198, I.I198), (199, I.I199), (200, I.I200), (201, I.I201), (202, I.I202), (203, I.I203), (204, I.I204), (208, I.I208), (209, I.I209), (210, I.I210), (211, I.I211), (212, I.I212), (220, I.I220), (221, I.I221), (222, I.I222), (223, I.I223), (224, I.I224), (225, I.I225), (226, I.I226), (227, I.I227), (228, I.I228), (231, I.I231), (232, I.I232), (233, I.I233), (234, I.I234), (235, I.I235), (256, I.I256), (257, I.I257), (258, I.I258), (259, I.I259), (260, I.I260), (261, I.I261), (262, I.I262), (263, I.I263), (264, I.I264), (265, I.I265), (266, I.I266), (267, I.I267), (268, I.I268), (270, I.I270), (271, I.I271), (273, I.I273), (276, I.I276), (277, I.I277), (278, I.I278), (279, I.I279), (280, I.I280), (281, I.I281), (282, I.I282), (287, I.I287), (288, I.I288), (289, I.I289), (290, I.I290), (291, I.I291), (292, I.I292), (296, I.I296), (297, I.I297), (298, I.I298), (299, I.I299), (300, I.I300), (301, I.I301), (302, I.I302), (303, I.I303), (304, I.I304), (305, I.I305), (306, I.I306), (307, I.I307), (308, I.I308), (311, I.I311), (312, I.I312), (313, I.I313), (314, I.I314), (316, I.I316), (317, I.I317), (318, I.I318), (319, I.I319), (320, I.I320), (321, I.I321), (322, I.I322), (324, I.I324), (332, I.I332), (337, I.I337), (338, I.I338), (339, I.I339), (340, I.I340), (342, I.I342), (343, I.I343), (345, I.I345), (346, I.I346)]
theorem mem : ∀ e ∈ lst, codeAt Go.Proofs.Tryz.prog e.1 = some e.2 := (mem_cons Ti.t3 (mem_cons Ti.t4 (mem_cons Ti.t5 (mem_cons Ti.t6 (mem_cons Ti.t7 (mem_cons Ti.t8 (mem_cons Ti.t9 (mem_cons Ti.t10 (mem_cons Ti.t11 (mem_cons Ti.t12 (mem_cons Ti.t13 (mem_cons Ti.t14 (mem_cons Ti.t15 (mem_cons Ti.t16 (mem_cons Ti.t17 (mem_cons Ti.t18 (mem_cons Ti.t19 (mem_cons Ti.t20 (mem_cons Ti.t21 (mem_cons Ti.t22 (mem_cons Ti.t23 (mem_cons Ti.t24 (mem_cons Ti.t25 (mem_cons Ti.t26 (mem_cons Ti.t27 (mem_cons Ti.t28 (mem_cons Ti.t29 (mem_cons Ti.t30 (mem_cons Ti.t31 (mem_cons Ti.t32 (mem_cons Ti.t33 (mem_cons Ti.t34 (mem_cons Ti.t35 (mem_cons Ti.t36 (mem_cons Ti.t37 (mem_cons Ti.t38 (mem_cons Ti.t39 (mem_cons Ti.t40 (mem_cons Ti.t41 (mem_cons Ti.t42 (mem_cons Ti.t43 (mem_cons Ti.t44 (mem_cons Ti.t45 (mem_cons Ti.t46 (mem_cons Ti.t47 (mem_cons Ti.t48 (mem_cons Ti.t49 (mem_cons Ti.t50 (mem_cons Ti.t51 (mem_cons Ti.t52 (mem_cons Ti.t53 (mem_cons Ti.t54 (mem_cons Ti.t55 (mem_cons Ti.t56 (mem_cons Ti.t57 (mem_cons Ti.t58 (mem_cons Ti.t59 (mem_cons Ti.t60 (mem_cons Ti.t61 (mem_cons Ti.t62 (mem_cons Ti.t63 (mem_cons Ti.t64 (mem_cons Ti.t65 (mem_cons Ti.t66 (mem_cons Ti.t67 (mem_cons Ti.t68 (mem_cons Ti.t69 (mem_cons Ti.t70 (mem_cons Ti.t71 (mem_cons Ti.t72 (mem_cons Ti.t73 (mem_cons Ti.t74 (mem_cons Ti.t75 (mem_cons Ti.t76 (mem_cons Ti.t77 (mem_cons Ti.t78 (mem_cons Ti.t79 (mem_cons Ti.t80 (mem_cons Ti.t81 (mem_cons Ti.t82 (mem_cons Ti.t83 (mem_cons Ti.t84 (mem_cons Ti.t85 (mem_cons Ti.t86 (mem_cons Ti.t87 (mem_cons Ti.t88 (mem_cons Ti.t89 (mem_cons Ti.t90 (mem_cons Ti.t91 (mem_cons Ti.t92 (mem_cons Ti.t93 (mem_cons Ti.t94 (mem_cons Ti.t95 (mem_cons Ti.t96 (mem_cons Ti.t97 (mem_cons Ti.t98 (mem_cons Ti.t99 (mem_cons Ti.t100 (mem_cons Ti.t101 (mem_cons Ti.t102 (mem_cons Ti.t103 (mem_cons Ti.t104 (mem_cons Ti.t105 (mem_cons Ti.t106 (mem_cons Ti.t107 (mem_cons Ti.t108 (mem_cons Ti.t109 (mem_cons Ti.t110 (mem_cons Ti.t111 (mem_cons Ti.t112 (mem_cons Ti.t113 (mem_cons Ti.t114 (mem_cons Ti.t115 (mem_cons Ti.t116 (mem_cons Ti.t117 (mem_cons Ti.t118 (mem_cons Ti.t119 (mem_cons Ti.t120 (mem_cons Ti.t121 (mem_cons Ti.t122 (mem_cons Ti.t123 (mem_cons Ti.t124 (mem_cons Ti.t125 (mem_cons Ti.t126 (mem_cons Ti.t127 (mem_cons Ti.t128 (mem_cons Ti.t129 (mem_cons Ti.t130 (mem_cons Ti.t131 (mem_cons Ti.t132 (mem_cons Ti.t133 (mem_cons Ti.t134 (mem_cons Ti.t135 (mem_cons Ti.t136 (mem_cons Ti.t137 (mem_cons Ti.t138 (mem_cons Ti.t139 (mem_cons Ti.t141 (mem_cons Ti.t142 (mem_cons Ti.t143 (mem_cons Ti.t144 (mem_cons Ti.t145 (mem_cons Ti.t146 (mem_cons Ti.t147 (mem_cons Ti.t148 (mem_cons Ti.t149 (mem_cons Ti.t150 (mem_cons Ti.t151 (mem_cons Ti.t152 (mem_cons Ti.t153 (mem_cons Ti.t154 (mem_cons Ti.t155 (mem_cons Ti.t156 (mem_cons Ti.t157 (mem_cons Ti.t158 (mem_cons Ti.t159 (mem_cons Ti.t160 (mem_cons Ti.t161 (mem_cons Ti.t162 (mem_cons Ti.t163 (mem_cons Ti.t164 (mem_cons Ti.t165 (mem_cons Ti.t166 (mem_cons Ti.t167 (mem_cons Ti.t168 (mem_cons Ti.t169 (mem_cons Ti.t171 (mem_cons Ti.t172 (mem_cons Ti.t173 (mem_cons Ti.t174 (mem_cons Ti.t175 (mem_cons Ti.t176 (mem_cons Ti.t177 (mem_cons Ti.t178 (mem_cons Ti.t180 (mem_cons Ti.t181 (mem_cons Ti.t182 (mem_cons Ti.t183 (mem_cons Ti.t184 (mem_cons Ti.t185 (mem_cons Ti.t186 (mem_cons Ti.t189 (mem_cons Ti.t190 (mem_cons Ti.t191 (mem_cons Ti.t192 (mem_cons Ti.t193 (mem_cons Ti.t194 (mem_cons Ti.t195 (mem_cons Ti.t196 (mem_cons Ti.t197 (mem_cons Ti.t198 (mem_cons Ti.t199 (mem_cons Ti.t200 (mem_cons Ti.t201 (mem_cons Ti.t202 (mem_cons Ti.t203 (mem_cons Ti.t204 (mem_cons Ti.t208 (mem_cons Ti.t209 (mem_cons Ti.t210 (mem_cons Ti.t211 (mem_cons Ti.t212 (mem_cons Ti.t220 (mem_cons Ti.t221 (mem_cons Ti.t222 (mem_cons Ti.t223 (mem_cons Ti.t224 (mem_cons Ti.t225 (mem_cons Ti.t226 (mem_cons Ti.t227 (mem_cons Ti.t228 (mem_cons Ti.t231 (mem_cons Ti.t232 (mem_cons Ti.t233 (mem_cons Ti.t234 (mem_cons Ti.t235 (mem_cons Ti.t256 (mem_cons Ti.t257 (mem_cons Ti.t258 (mem_cons Ti.t259 (mem_cons Ti.t260 (mem_cons Ti.t261 (mem_cons Ti.t262 (mem_cons Ti.t263 (mem_cons Ti.t264 (mem_cons Ti.t265 (mem_cons Ti.t266 (mem_cons Ti.t267 (mem_cons Ti.t268 (mem_cons Ti.t270 (mem_cons Ti.t271 (mem_cons Ti.t273 (mem_cons Ti.t276 (mem_cons Ti.t277 (mem_cons Ti.t278 (mem_cons Ti.t279 (mem_cons Ti.t280 (mem_cons Ti.t281 (mem_cons Ti.t282 (mem_cons Ti.t287 (mem_cons Ti.t288 (mem_cons Ti.t289 (mem_cons Ti.t290 (mem_cons Ti.t291 (mem_cons Ti.t292 (mem_cons Ti.t296 (mem_cons Ti.t297 (mem_cons Ti.t298 (mem_cons Ti.t299 (mem_cons Ti.t300 (mem_cons Ti.t301 (mem_cons Ti.t302 (mem_cons Ti.t303 (mem_cons Ti.t304 (mem_cons Ti.t305 (mem_cons Ti.t306 (mem_cons Ti.t307 (mem_cons Ti.t308 (mem_cons Ti.t311 (mem_cons Ti.t312 (mem_cons Ti.t313 (mem_cons Ti.t314 (mem_cons Ti.t316 (mem_cons Ti.t317 (mem_cons Ti.t318 (mem_cons Ti.t319 (mem_cons Ti.t320 (mem_cons Ti.t321 (mem_cons Ti.t322 (mem_cons Ti.t324 (mem_cons Ti.t332 (mem_cons Ti.t337 (mem_cons Ti.t338 (mem_cons Ti.t339 (mem_cons Ti.t340 (mem_cons Ti.t342 (mem_cons Ti.t343 (mem_cons Ti.t345 (mem_cons Ti.t346 mem_nil)))))))))))))))))))))))))))))))))))))))))))))))))))))))))))))))))))))))))))))))))))))))))))))))))))))))))))))))))))))))))))))))))))))))))))))))))))))))))))))))))))))))))))))))))))))))))))))))))))))))))))))))))))))))))))))))))))))))))))))))))))))))))))))))))))))))))))))))))))))))
theorem fns_eq : fns43 = fnsOf lst := by kernel_rfl
theorem tied : Tied Go.Proofs.Tryz.prog fns43 := tied_of lst mem fns_eq
end Ev.Td
end

/- The edges of a mesh as an oracle; the sort by a table of all orders. -/
section
namespace Ev.Ed
open Go Ev Ev.Ou
set_option maxRecDepth 100000

theorem edges_at : jAt Go.Proofs.Tryz.prog 260 = some (63, I.J260, [(2, none), (3, none)]) := by kernel_rfl

theorem edges_ok {K : Base → Prop} {B : Base} (hK : K B) (hS : Stays K) (hm : Go.Proofs.Tryz.prog.follows .mixedOrders = true) (C : CallF) (LF : Nat) (L1 S1 : List (Int × Int)) (hC : ∀ B, K B → CallOK (IRof Go.Proofs.Tryz.prog) B Go.Proofs.Tryz.prog C) (hne : L1 ≠ [])
    (hsort : ∀ (l : List (Int × Int)) (rows : T ARow) (nx id : Nat), l.Perm L1 → rows.get id = some (.cells 308 (flat2 l)) → C (.f 287) [.slice id 0 L1.length (.op 2), .fn 288 []] rows nx = some ⟨.tup [], rows.set id (some (.cells 308 (flat2 S1))), nx⟩) : OrcOK B Go.Proofs.Tryz.prog 260 (oEdges C LF L1 S1) := by
  refine orc_J2 (P := Go.Proofs.Tryz.prog) (f := 260) (n := 63) (j := I.J260) (rs := [(2, none), (3, none)]) hK hS hm edges_at C LF hC fun args rows nx r he => ?_
  obtain ⟨hal, he⟩ := gd_some.1 he
  rw [ble_nat, lenN_eq] at hal
  simp only [decide_eq_true_eq] at hal
  obtain ⟨s, hs, he⟩ := bo_some.1 he
  split at he <;> try (cases he; done)
  rename_i b h5
  split at he <;> try (cases he; done)
  rename_i es hb
  split at he <;> try (cases he; done)
  rename_i h7
  obtain ⟨hg, he⟩ := gd_some.1 he
  simp only [Option.some.injEq] at he
  simp only [Bool.and_eq_true, blt_nat, ble_nat, decide_eq_true_eq] at hg
  obtain ⟨hk, hL, hbn, hsz⟩ := hg
  have hL := eqPs_eq hL
  obtain ⟨s1, h1, hs⟩ := bo_some.1 hs
  obtain ⟨s2, h2, hs⟩ := bo_some.1 hs
  obtain ⟨s3, h3, hs⟩ := bo_some.1 hs
  obtain ⟨s4, h4, hs⟩ := bo_some.1 hs
  obtain ⟨s5, h5', hs⟩ := bo_some.1 hs
  have r1 := runN_some h1
  have r2 := runN_some h2
  have r3 := runN_some h3
  have r4 := runN_some h4
  have r5 := runN_some h5'
  have r6 := runN_some hs
  refine ⟨hal, L1.length, 2, .int .i64 (.ofNat 0), .cells 308 (flat2 S1), _, _, he.symm, rfl, rfl, ?_⟩
  refine JR_ic (c := p1) (b := JC.rgt I.J260) r1 ?_
  show JRuns C LF [] (.seq (.seq (.ic p2) (.seq (.ic p3) (.ic p4))) (.seq (.ic p5) (.seq (.ic p6) (.seq mJ tl)))) s1 _
  refine JR_ic (c := p2) (b := .seq (.ic p3) (.ic p4)) r2 (JR_ic (c := p3) (b := .ic p4) r3 ⟨_, r4, ?_⟩)
  refine JR_ic (c := p5) (b := .seq (.ic p6) (.seq mJ tl)) r5 (JR_ic (c := p6) (b := .seq mJ tl) r6 ?_)
  refine edges_J (S1 := S1) h5 h7 hb hk hL hbn hsz hne hsort fun s' id g1 g2 g3 g4 k2 k3 hfr => ?_
  refine ⟨fun id => by simp, [.slice id 0 L1.length (.op 2), .int .i64 (.ofNat 0)], id, ?_, rfl, ?_, g1, fun b' q hq => ?_⟩
  · show bo (some ((Opd.t 2).ev s'.tm)) (fun v => bo (bo (some ((Opd.t 3).ev s'.tm)) fun v => bo (some []) fun r => some (v :: r)) fun r => some (v :: r)) = _
    rw [s_ev, s_ev, k2, k3]; rfl
  · rcases g4 with g4 | ⟨l, g4⟩ <;> rw [g4, T.get_set, if_pos rfl]
  · rw [T.get_set] at hq
    split at hq
    · rename_i hb'
      simp only [Option.some.injEq] at hq
      exact .inl ⟨hb', hq.symm⟩
    · rename_i hb'
      have hid : b' ≠ id := fun e => by
        rw [e, hfr id g2] at hq; cases hq
      refine .inr ⟨hid, hb', ?_⟩
      rcases g4 with g4 | ⟨l, g4⟩ <;> rw [g4, T.get_set, if_neg hid, T.get_set, if_neg hid] <;> exact hq

theorem turn_sort {L1 S1 l : List (Int × Int)} {rows : T ARow} {nx id : Nat} (h : l.Perm L1) (hr : rows.get id = some (.cells 308 (flat2 l))) :
    turnO 308 2 L1.length 288 (sortT L1 S1) [.slice id 0 L1.length (.op 2), .fn 288 []] rows nx = some ⟨.tup [], rows.set id (some (.cells 308 (flat2 S1))), nx⟩ := by
  show gd (Nat.beq 0 0 && (Nat.beq L1.length L1.length && (Nat.beq 2 2 && Nat.beq 288 288))) (asCells (rows.get id) fun g l => gd (Nat.beq g 308) (bo (lookR (sortT L1 S1) l) fun m => some (R.mk (.tup []) (rows.set id (some (.cells g m))) nx))) = _
  rw [hr, beq_nat, beq_nat, beq_nat, beq_nat]
  simp only [decide_true, Bool.and_self, x_gd, s_asCells, beq_nat]
  rw [lookR_sort h]
  rfl
end Ev.Ed
end
