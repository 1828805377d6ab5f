/- Tables of answers of the rational functions, each row by a run. -/
import Derived.Test.YtkakkacpddiogaaGreatDoorOr43

set_option linter.unusedSimpArgs false
set_option linter.unusedVariables false
section
namespace Ev.Me
open Go Ev Ev.Or
set_option maxRecDepth 1000000
noncomputable def ev (f : Nat) (args : List AV) : Option R := evA (.r f) args (g0 1 pow) 2
theorem rows {f : Nat} {t : List (List AV × AV)} (h : allG (ev f) t = true) : ∀ e ∈ t, RowG P43 1 pow f e := fun e he => row_okG (LF := 100000) (fuel := 200) mixed Td.tied (fun B _ => orcA_ok B) (allG_ok h e he)
theorem rowsA {f : Nat} {t u : List (List AV × AV)} (h : ∀ e ∈ t, RowG P43 1 pow f e) (k : ∀ e ∈ u, RowG P43 1 pow f e) : ∀ e ∈ t ++ u, RowG P43 1 pow f e := fun e he => (List.mem_append.1 he).elim (h e) (k e)
def t101_0 : List (List AV × AV) := [([(.int .i64 (.ofNat 0))], (.str [48])), ([(.int .i64 (.ofNat 2))], (.str [50]))]
theorem m101_0 : allG (ev 101) t101_0 = true := by kernel_rfl
def t101 : List (List AV × AV) := t101_0
theorem r101 : ∀ e ∈ t101, RowG P43 1 pow 101 e := (rows m101_0)
def t107_0 : List (List AV × AV) := [([(.agg [(.str [103]),(.str [51]),(.str [52])])], (.bool false)), ([(.agg [(.str [97]),(.str [49]),(.str [51])])], (.bool false)), ([(.agg [(.str [98]),(.str [48]),(.str [49])])], (.bool false))]
theorem m107_0 : allG (ev 107) t107_0 = true := by kernel_rfl
def t107 : List (List AV × AV) := t107_0
theorem r107 : ∀ e ∈ t107, RowG P43 1 pow 107 e := (rows m107_0)
def t137_0 : List (List AV × AV) := [([(.agg [(.str [48]),(.str [48])])], (.int .i64 (.ofNat 0))), ([(.agg [(.str [48]),(.str [52])])], (.int .i64 (.ofNat 0))), ([(.agg [(.str [49]),(.str [49])])], (.int .i64 (.ofNat 0))), ([(.agg [(.str [52]),(.str [48])])], (.int .i64 (.ofNat 0))), ([(.agg [(.str [52]),(.str [52])])], (.int .i64 (.ofNat 0)))]
theorem m137_0 : allG (ev 137) t137_0 = true := by kernel_rfl
def t137 : List (List AV × AV) := t137_0
theorem r137 : ∀ e ∈ t137, RowG P43 1 pow 137 e := (rows m137_0)
def t138_0 : List (List AV × AV) := [([(.agg [(.str [48]),(.str [48])]),(.agg [(.str [52]),(.str [48])]),(.agg [(.str [52]),(.str [52])])], (.int .i64 (.ofNat 1))), ([(.agg [(.str [48]),(.str [48])]),(.agg [(.str [52]),(.str [52])]),(.agg [(.str [48]),(.str [52])])], (.int .i64 (.ofNat 1))), ([(.agg [(.str [48]),(.str [52])]),(.agg [(.str [48]),(.str [48])]),(.agg [(.str [52]),(.str [48])])], (.int .i64 (.ofNat 1))), ([(.agg [(.str [52]),(.str [48])]),(.agg [(.str [52]),(.str [52])]),(.agg [(.str [48]),(.str [52])])], (.int .i64 (.ofNat 1))), ([(.agg [(.str [52]),(.str [52])]),(.agg [(.str [48]),(.str [52])]),(.agg [(.str [48]),(.str [48])])], (.int .i64 (.ofNat 1)))]
theorem m138_0 : allG (ev 138) t138_0 = true := by kernel_rfl
def t138 : List (List AV × AV) := t138_0
theorem r138 : ∀ e ∈ t138, RowG P43 1 pow 138 e := (rows m138_0)
def t141_0 : List (List AV × AV) := [([(.str [97])], (.int .i64 (.ofNat 0))), ([(.str [98,101,100,115])], (.int .i64 (.ofNat 0))), ([(.str [98])], (.int .i64 (.ofNat 0)))]
theorem m141_0 : allG (ev 141) t141_0 = true := by kernel_rfl
def t141 : List (List AV × AV) := t141_0
theorem r141 : ∀ e ∈ t141, RowG P43 1 pow 141 e := (rows m141_0)
def t15_0 : List (List AV × AV) := [([(.str [45,49,54]),(.str [48])], (.str [45,49,54])), ([(.str [48]),(.str [45,49,54])], (.str [45,49,54])), ([(.str [48]),(.str [48])], (.str [48])), ([(.str [48]),(.str [49])], (.str [49])), ([(.str [48]),(.str [51])], (.str [51])), ([(.str [48]),(.str [52])], (.str [52])), ([(.str [48]),(.str [54,47,53])], (.str [54,47,53])), ([(.str [48]),(.str [54])], (.str [54])), ([(.str [48]),(.str [56,47,53])], (.str [56,47,53])), ([(.str [52]),(.str [48])], (.str [52]))]
theorem m15_0 : allG (ev 15) t15_0 = true := by kernel_rfl
def t15_1 : List (List AV × AV) := [([(.str [54]),(.str [53])], (.str [49,49]))]
theorem m15_1 : allG (ev 15) t15_1 = true := by kernel_rfl
def t15 : List (List AV × AV) := (t15_0 ++ t15_1)
theorem r15 : ∀ e ∈ t15, RowG P43 1 pow 15 e := (rowsA (rows m15_0) (rows m15_1))
def t16_0 : List (List AV × AV) := [([(.str [45,49]),(.str [51])], (.str [45,52])), ([(.str [48]),(.str [48])], (.str [48])), ([(.str [48]),(.str [52])], (.str [45,52])), ([(.str [49]),(.str [49])], (.str [48])), ([(.str [50]),(.str [50])], (.str [48])), ([(.str [51]),(.str [48])], (.str [51])), ([(.str [52]),(.str [48])], (.str [52])), ([(.str [52]),(.str [49,48])], (.str [45,54])), ([(.str [52]),(.str [52])], (.str [48])), ([(.str [56]),(.str [54])], (.str [50]))]
theorem m16_0 : allG (ev 16) t16_0 = true := by kernel_rfl
def t16 : List (List AV × AV) := t16_0
theorem r16 : ∀ e ∈ t16, RowG P43 1 pow 16 e := (rows m16_0)
def t193_0 : List (List AV × AV) := [([(.nil .slice),(.nil .slice)], (.bool true))]
theorem m193_0 : allG (ev 193) t193_0 = true := by kernel_rfl
def t193 : List (List AV × AV) := t193_0
theorem r193 : ∀ e ∈ t193, RowG P43 1 pow 193 e := (rows m193_0)
def t196_0 : List (List AV × AV) := [([(.str [48]),(.str [49]),(.str [48])], (.str [48])), ([(.str [48]),(.str [49]),(.str [49,47,52])], (.str [49,47,52])), ([(.str [48]),(.str [49]),(.str [49])], (.str [49])), ([(.str [48]),(.str [49]),(.str [51,47,52])], (.str [51,47,52]))]
theorem m196_0 : allG (ev 196) t196_0 = true := by kernel_rfl
def t196 : List (List AV × AV) := t196_0
theorem r196 : ∀ e ∈ t196, RowG P43 1 pow 196 e := (rows m196_0)
def t197_0 : List (List AV × AV) := [([(.agg [(.str [48]),(.str [49,47,52]),(.str [49]),(.str [49]),(.str [51]),(.str [49]),(.str [49]),(.str [50])]),(.str [49,47,50])], (.agg [(.str [49]),(.str [49]),(.str [53,47,50])])), ([(.agg [(.str [48]),(.str [49]),(.str [49]),(.str [49]),(.str [51]),(.str [49]),(.str [49]),(.str [45,49])]),(.str [48])], (.agg [(.str [49]),(.str [49]),(.str [51])])), ([(.agg [(.str [48]),(.str [49]),(.str [49]),(.str [49]),(.str [51]),(.str [49]),(.str [49]),(.str [45,49])]),(.str [49,47,52])], (.agg [(.str [49]),(.str [49]),(.str [50])])), ([(.agg [(.str [48]),(.str [49]),(.str [49]),(.str [49]),(.str [51]),(.str [49]),(.str [49]),(.str [45,49])]),(.str [49])], (.agg [(.str [49]),(.str [49]),(.str [45,49])])), ([(.agg [(.str [48]),(.str [49]),(.str [49]),(.str [49]),(.str [51]),(.str [49]),(.str [49]),(.str [45,49])]),(.str [51,47,52])], (.agg [(.str [49]),(.str [49]),(.str [48])])), ([(.agg [(.str [49,47,52]),(.str [51,47,52]),(.str [49]),(.str [49]),(.str [50]),(.str [49]),(.str [49]),(.str [48])]),(.str [49,47,50])], (.agg [(.str [49]),(.str [49]),(.str [49])])), ([(.agg [(.str [51,47,52]),(.str [49]),(.str [49]),(.str [49]),(.str [48]),(.str [49]),(.str [49]),(.str [45,49])]),(.str [49,47,50])], (.agg [(.str [49]),(.str [49]),(.str [45,49,47,50])]))]
theorem m197_0 : allG (ev 197) t197_0 = true := by kernel_rfl
def t197 : List (List AV × AV) := t197_0
theorem r197 : ∀ e ∈ t197, RowG P43 1 pow 197 e := (rows m197_0)
def t24_0 : List (List AV × AV) := [([(.str [45,49,47,50]),(.str [48])], (.int .i64 (.negSucc 0))), ([(.str [45,49,47,50]),(.str [50])], (.int .i64 (.negSucc 0))), ([(.str [48]),(.str [48])], (.int .i64 (.ofNat 0))), ([(.str [48]),(.str [50])], (.int .i64 (.negSucc 0))), ([(.str [48]),(.str [51])], (.int .i64 (.negSucc 0))), ([(.str [48]),(.str [52])], (.int .i64 (.negSucc 0))), ([(.str [49,47,52]),(.str [48])], (.int .i64 (.ofNat 1))), ([(.str [49,47,52]),(.str [49,47,52])], (.int .i64 (.ofNat 0))), ([(.str [49,47,52]),(.str [49])], (.int .i64 (.negSucc 0))), ([(.str [49,47,52]),(.str [51,47,52])], (.int .i64 (.negSucc 0)))]
theorem m24_0 : allG (ev 24) t24_0 = true := by kernel_rfl
def t24_1 : List (List AV × AV) := [([(.str [49]),(.str [48])], (.int .i64 (.ofNat 1))), ([(.str [49]),(.str [49])], (.int .i64 (.ofNat 0))), ([(.str [49]),(.str [50])], (.int .i64 (.negSucc 0))), ([(.str [49]),(.str [51])], (.int .i64 (.negSucc 0))), ([(.str [50]),(.str [48])], (.int .i64 (.ofNat 1))), ([(.str [50]),(.str [50])], (.int .i64 (.ofNat 0))), ([(.str [50]),(.str [53])], (.int .i64 (.negSucc 0))), ([(.str [51,47,52]),(.str [48])], (.int .i64 (.ofNat 1))), ([(.str [51,47,52]),(.str [49])], (.int .i64 (.negSucc 0))), ([(.str [51,47,52]),(.str [51,47,52])], (.int .i64 (.ofNat 0)))]
theorem m24_1 : allG (ev 24) t24_1 = true := by kernel_rfl
def t24_2 : List (List AV × AV) := [([(.str [51]),(.str [49])], (.int .i64 (.ofNat 1))), ([(.str [51]),(.str [50])], (.int .i64 (.ofNat 1))), ([(.str [51]),(.str [51])], (.int .i64 (.ofNat 0))), ([(.str [52]),(.str [48])], (.int .i64 (.ofNat 1))), ([(.str [52]),(.str [52])], (.int .i64 (.ofNat 0))), ([(.str [53,47,50]),(.str [48])], (.int .i64 (.ofNat 1))), ([(.str [53,47,50]),(.str [50])], (.int .i64 (.ofNat 1))), ([(.str [56]),(.str [54])], (.int .i64 (.ofNat 1)))]
theorem m24_2 : allG (ev 24) t24_2 = true := by kernel_rfl
def t24 : List (List AV × AV) := (t24_0 ++ (t24_1 ++ t24_2))
theorem r24 : ∀ e ∈ t24, RowG P43 1 pow 24 e := (rowsA (rows m24_0) (rowsA (rows m24_1) (rows m24_2)))
def t262_0 : List (List AV × AV) := [([(.str [45,52]),(.str [45,52])], (.tup [(.str []),(.bool false)])), ([(.str [48]),(.str [48])], (.tup [(.str []),(.bool false)])), ([(.str [49,50]),(.str [49,50])], (.tup [(.str []),(.bool false)])), ([(.str [49]),(.str [45,51])], (.tup [(.str [49,47,52]),(.bool true)])), ([(.str [51]),(.str [45,49])], (.tup [(.str [51,47,52]),(.bool true)])), ([(.str [52]),(.str [52])], (.tup [(.str []),(.bool false)]))]
theorem m262_0 : allG (ev 262) t262_0 = true := by kernel_rfl
def t262 : List (List AV × AV) := t262_0
theorem r262 : ∀ e ∈ t262, RowG P43 1 pow 262 e := (rows m262_0)
def t263_0 : List (List AV × AV) := [([(.agg [(.str [45,52]),(.str [48]),(.str [48]),(.str [45,49,54])]),(.agg [(.str [49]),(.str [49]),(.str [45,49])])], (.str [49,50])), ([(.agg [(.str [45,52]),(.str [48]),(.str [48]),(.str [45,49,54])]),(.agg [(.str [49]),(.str [49]),(.str [51])])], (.str [49,50])), ([(.agg [(.str [45,52]),(.str [48]),(.str [48]),(.str [48])]),(.agg [(.str [49]),(.str [49]),(.str [45,49])])], (.str [45,52])), ([(.agg [(.str [45,52]),(.str [48]),(.str [48]),(.str [48])]),(.agg [(.str [49]),(.str [49]),(.str [51])])], (.str [45,52])), ([(.agg [(.str [45,52]),(.str [52]),(.str [48]),(.str [48])]),(.agg [(.str [49]),(.str [49]),(.str [45,49])])], (.str [48])), ([(.agg [(.str [45,52]),(.str [52]),(.str [48]),(.str [48])]),(.agg [(.str [49]),(.str [49]),(.str [51])])], (.str [48])), ([(.agg [(.str [48]),(.str [45,52]),(.str [48]),(.str [45,49,54])]),(.agg [(.str [49]),(.str [49]),(.str [45,49])])], (.str [49,50])), ([(.agg [(.str [48]),(.str [45,52]),(.str [48]),(.str [45,49,54])]),(.agg [(.str [49]),(.str [49]),(.str [51])])], (.str [49,50])), ([(.agg [(.str [48]),(.str [48]),(.str [49]),(.str [48])]),(.agg [(.str [49]),(.str [49]),(.str [45,49])])], (.str [45,49])), ([(.agg [(.str [48]),(.str [48]),(.str [49]),(.str [48])]),(.agg [(.str [49]),(.str [49]),(.str [51])])], (.str [51]))]
theorem m263_0 : allG (ev 263) t263_0 = true := by kernel_rfl
def t263_1 : List (List AV × AV) := [([(.agg [(.str [48]),(.str [48]),(.str [49]),(.str [50])]),(.agg [(.str [49]),(.str [49]),(.str [45,49])])], (.str [45,51])), ([(.agg [(.str [48]),(.str [48]),(.str [49]),(.str [50])]),(.agg [(.str [49]),(.str [49]),(.str [51])])], (.str [49])), ([(.agg [(.str [48]),(.str [52]),(.str [48]),(.str [48])]),(.agg [(.str [49]),(.str [49]),(.str [45,49])])], (.str [52])), ([(.agg [(.str [48]),(.str [52]),(.str [48]),(.str [48])]),(.agg [(.str [49]),(.str [49]),(.str [51])])], (.str [52]))]
theorem m263_1 : allG (ev 263) t263_1 = true := by kernel_rfl
def t263 : List (List AV × AV) := (t263_0 ++ t263_1)
theorem r263 : ∀ e ∈ t263, RowG P43 1 pow 263 e := (rowsA (rows m263_0) (rows m263_1))
def t267_0 : List (List AV × AV) := [([(.agg [(.str [49]),(.str [48]),(.str [48]),(.str [48]),(.str [49]),(.str [48]),(.str [48]),(.str [48]),(.str [49]),(.str [48]),(.str [48]),(.str [48])]),(.agg [(.str [49]),(.str [49]),(.str [45,49])])], (.tup [(.agg [(.str [49]),(.str [49]),(.str [45,49])]),(.int .i64 (.ofNat 0))])), ([(.agg [(.str [49]),(.str [48]),(.str [48]),(.str [48]),(.str [49]),(.str [48]),(.str [48]),(.str [48]),(.str [49]),(.str [48]),(.str [48]),(.str [48])]),(.agg [(.str [49]),(.str [49]),(.str [48])])], (.tup [(.agg [(.str [49]),(.str [49]),(.str [48])]),(.int .i64 (.ofNat 0))]))]
theorem m267_0 : allG (ev 267) t267_0 = true := by kernel_rfl
def t267 : List (List AV × AV) := t267_0
theorem r267 : ∀ e ∈ t267, RowG P43 1 pow 267 e := (rows m267_0)
def t280_0 : List (List AV × AV) := [([(.agg [(.str [48]),(.str [48]),(.str [49])]),(.agg [(.str [48]),(.str [48]),(.str [48])])], (.str [48])), ([(.agg [(.str [48]),(.str [48]),(.str [49])]),(.agg [(.str [48]),(.str [48]),(.str [50])])], (.str [50])), ([(.agg [(.str [48]),(.str [48]),(.str [49])]),(.agg [(.str [49]),(.str [49]),(.str [45,49,47,50])])], (.str [45,49,47,50])), ([(.agg [(.str [48]),(.str [48]),(.str [49])]),(.agg [(.str [49]),(.str [49]),(.str [49])])], (.str [49])), ([(.agg [(.str [48]),(.str [48]),(.str [49])]),(.agg [(.str [49]),(.str [49]),(.str [53,47,50])])], (.str [53,47,50]))]
theorem m280_0 : allG (ev 280) t280_0 = true := by kernel_rfl
def t280 : List (List AV × AV) := t280_0
theorem r280 : ∀ e ∈ t280, RowG P43 1 pow 280 e := (rows m280_0)
def t282_0 : List (List AV × AV) := [([(.agg [(.str [48]),(.str [48]),(.str [49]),(.str [48])])], (.int .i64 (.ofNat 0))), ([(.agg [(.str [48]),(.str [48]),(.str [49]),(.str [50])])], (.int .i64 (.ofNat 0)))]
theorem m282_0 : allG (ev 282) t282_0 = true := by kernel_rfl
def t282 : List (List AV × AV) := t282_0
theorem r282 : ∀ e ∈ t282, RowG P43 1 pow 282 e := (rows m282_0)
def t296_0 : List (List AV × AV) := [([(.agg [(.str [49]),(.str [48]),(.str [48]),(.str [48]),(.str [49]),(.str [48]),(.str [48]),(.str [48]),(.str [49]),(.str [48]),(.str [48]),(.str [48])])], (.int .i64 (.ofNat 0)))]
theorem m296_0 : allG (ev 296) t296_0 = true := by kernel_rfl
def t296 : List (List AV × AV) := t296_0
theorem r296 : ∀ e ∈ t296, RowG P43 1 pow 296 e := (rows m296_0)
def t30_0 : List (List AV × AV) := [([(.int .i64 (.ofNat 0)),(.int .i64 (.ofNat 0)),(.int .i64 (.ofNat 10))], (.agg [(.str [48]),(.str [48]),(.str [49,48])])), ([(.int .i64 (.ofNat 0)),(.int .i64 (.ofNat 0)),(.int .i64 (.ofNat 4))], (.agg [(.str [48]),(.str [48]),(.str [52])])), ([(.int .i64 (.ofNat 1)),(.int .i64 (.ofNat 1)),(.int .i64 (.negSucc 0))], (.agg [(.str [49]),(.str [49]),(.str [45,49])])), ([(.int .i64 (.ofNat 1)),(.int .i64 (.ofNat 1)),(.int .i64 (.ofNat 3))], (.agg [(.str [49]),(.str [49]),(.str [51])])), ([(.int .i64 (.ofNat 3)),(.int .i64 (.ofNat 4)),(.int .i64 (.ofNat 4))], (.agg [(.str [51]),(.str [52]),(.str [52])]))]
theorem m30_0 : allG (ev 30) t30_0 = true := by kernel_rfl
def t30 : List (List AV × AV) := t30_0
theorem r30 : ∀ e ∈ t30, RowG P43 1 pow 30 e := (rows m30_0)
def t306_0 : List (List AV × AV) := [([(.agg [(.str [48]),(.str [48]),(.str [52]),(.str [48]),(.str [52]),(.str [52])]),(.agg [(.str [49]),(.str [49])])], (.bool true)), ([(.agg [(.str [48]),(.str [48]),(.str [52]),(.str [52]),(.str [48]),(.str [52])]),(.agg [(.str [49]),(.str [49])])], (.bool true))]
theorem m306_0 : allG (ev 306) t306_0 = true := by kernel_rfl
def t306 : List (List AV × AV) := t306_0
theorem r306 : ∀ e ∈ t306, RowG P43 1 pow 306 e := (rows m306_0)
def t313_0 : List (List AV × AV) := [([(.agg [(.str [49]),(.str [48]),(.str [48]),(.str [48]),(.str [49]),(.str [48]),(.str [48]),(.str [48]),(.str [49])]),(.agg [(.str [48]),(.str [48]),(.str [48])])], (.tup [(.agg [(.str [49]),(.str [48]),(.str [48]),(.str [48]),(.str [49]),(.str [48]),(.str [48]),(.str [48]),(.str [49]),(.str [48]),(.str [48]),(.str [48])]),(.int .i64 (.ofNat 0))]))]
theorem m313_0 : allG (ev 313) t313_0 = true := by kernel_rfl
def t313 : List (List AV × AV) := t313_0
theorem r313 : ∀ e ∈ t313, RowG P43 1 pow 313 e := (rows m313_0)
def t340_0 : List (List AV × AV) := [([(.str [48]),(.str [48]),(.str [48]),(.str [52])], (.str [48])), ([(.str [48]),(.str [52]),(.str [48]),(.str [52])], (.str [48])), ([(.str [52]),(.str [48]),(.str [48]),(.str [48])], (.str [48])), ([(.str [52]),(.str [48]),(.str [52]),(.str [48])], (.str [48])), ([(.str [52]),(.str [48]),(.str [52]),(.str [52])], (.str [49,54])), ([(.str [52]),(.str [52]),(.str [48]),(.str [52])], (.str [49,54]))]
theorem m340_0 : allG (ev 340) t340_0 = true := by kernel_rfl
def t340 : List (List AV × AV) := t340_0
theorem r340 : ∀ e ∈ t340, RowG P43 1 pow 340 e := (rows m340_0)
def t40_0 : List (List AV × AV) := [([(.str [48])], (.int .i64 (.ofNat 0))), ([(.str [49,47,52])], (.int .i64 (.ofNat 0))), ([(.str [49,49])], (.int .i64 (.ofNat 0))), ([(.str [49])], (.int .i64 (.ofNat 0))), ([(.str [50])], (.int .i64 (.ofNat 0))), ([(.str [51,47,52])], (.int .i64 (.ofNat 0))), ([(.str [51])], (.int .i64 (.ofNat 0))), ([(.str [52])], (.int .i64 (.ofNat 0))), ([(.str [56])], (.int .i64 (.ofNat 0)))]
theorem m40_0 : allG (ev 40) t40_0 = true := by kernel_rfl
def t40 : List (List AV × AV) := t40_0
theorem r40 : ∀ e ∈ t40, RowG P43 1 pow 40 e := (rows m40_0)
def t47_0 : List (List AV × AV) := [([(.str [48])], (.str [48]))]
theorem m47_0 : allG (ev 47) t47_0 = true := by kernel_rfl
def t47 : List (List AV × AV) := t47_0
theorem r47 : ∀ e ∈ t47, RowG P43 1 pow 47 e := (rows m47_0)
def t50_0 : List (List AV × AV) := [([(.agg [(.str [97]),(.str [48]),(.str [49])]),(.str [48])], (.bool true)), ([(.agg [(.str [97]),(.str [48]),(.str [49])]),(.str [49])], (.bool false)), ([(.agg [(.str [97]),(.str [48]),(.str [49])]),(.str [50])], (.bool false)), ([(.agg [(.str [97]),(.str [48]),(.str [50])]),(.str [48])], (.bool true)), ([(.agg [(.str [97]),(.str [48]),(.str [50])]),(.str [49])], (.bool true)), ([(.agg [(.str [97]),(.str [48]),(.str [50])]),(.str [50])], (.bool false)), ([(.agg [(.str [98]),(.str [49]),(.str [51])]),(.str [49])], (.bool true)), ([(.agg [(.str [98]),(.str [49]),(.str [51])]),(.str [50])], (.bool true)), ([(.agg [(.str [98]),(.str [50]),(.str [51])]),(.str [50])], (.bool true))]
theorem m50_0 : allG (ev 50) t50_0 = true := by kernel_rfl
def t50 : List (List AV × AV) := t50_0
theorem r50 : ∀ e ∈ t50, RowG P43 1 pow 50 e := (rows m50_0)
def t54_0 : List (List AV × AV) := [([(.str [103])], (.bool true)), ([(.str [97])], (.bool true)), ([(.str [98])], (.bool true))]
theorem m54_0 : allG (ev 54) t54_0 = true := by kernel_rfl
def t54 : List (List AV × AV) := t54_0
theorem r54 : ∀ e ∈ t54, RowG P43 1 pow 54 e := (rows m54_0)
def t55_0 : List (List AV × AV) := [([(.str [48])], (.int .i64 (.ofNat 0))), ([(.str [49])], (.int .i64 (.ofNat 1))), ([(.str [50])], (.int .i64 (.ofNat 1))), ([(.str [56])], (.int .i64 (.ofNat 1)))]
theorem m55_0 : allG (ev 55) t55_0 = true := by kernel_rfl
def t55 : List (List AV × AV) := t55_0
theorem r55 : ∀ e ∈ t55, RowG P43 1 pow 55 e := (rows m55_0)
def t59_0 : List (List AV × AV) := [([(.str [49]),(.str [49,54])], (.tup [(.str [49,47,49,54]),(.int .i64 (.ofNat 0))])), ([(.str [50]),(.str [53])], (.tup [(.str [50,47,53]),(.int .i64 (.ofNat 0))]))]
theorem m59_0 : allG (ev 59) t59_0 = true := by kernel_rfl
def t59 : List (List AV × AV) := t59_0
theorem r59 : ∀ e ∈ t59, RowG P43 1 pow 59 e := (rows m59_0)
def t61_0 : List (List AV × AV) := [([(.str [45,52]),(.str [48])], (.str [48])), ([(.str [45,52]),(.str [52])], (.str [45,49,54])), ([(.str [48]),(.str [48])], (.str [48])), ([(.str [48]),(.str [52])], (.str [48])), ([(.str [49,47,49,54]),(.str [48])], (.str [48])), ([(.str [49,47,52]),(.str [52])], (.str [49])), ([(.str [49]),(.str [52])], (.str [52])), ([(.str [50,47,53]),(.str [48])], (.str [48])), ([(.str [50,47,53]),(.str [51])], (.str [54,47,53])), ([(.str [50,47,53]),(.str [52])], (.str [56,47,53]))]
theorem m61_0 : allG (ev 61) t61_0 = true := by kernel_rfl
def t61_1 : List (List AV × AV) := [([(.str [51,47,52]),(.str [52])], (.str [51])), ([(.str [52]),(.str [48])], (.str [48]))]
theorem m61_1 : allG (ev 61) t61_1 = true := by kernel_rfl
def t61 : List (List AV × AV) := (t61_0 ++ t61_1)
theorem r61 : ∀ e ∈ t61, RowG P43 1 pow 61 e := (rowsA (rows m61_0) (rows m61_1))
def t62_0 : List (List AV × AV) := [([(.agg [(.str [48]),(.str [48]),(.str [49,48])])], (.int .i64 (.ofNat 0))), ([(.agg [(.str [48]),(.str [48]),(.str [52])])], (.int .i64 (.ofNat 0))), ([(.agg [(.str [49]),(.str [49]),(.str [45,49,47,50])])], (.int .i64 (.ofNat 0))), ([(.agg [(.str [49]),(.str [49]),(.str [45,49])])], (.int .i64 (.ofNat 0))), ([(.agg [(.str [49]),(.str [49]),(.str [49])])], (.int .i64 (.ofNat 0))), ([(.agg [(.str [49]),(.str [49]),(.str [51])])], (.int .i64 (.ofNat 0))), ([(.agg [(.str [49]),(.str [49]),(.str [53,47,50])])], (.int .i64 (.ofNat 0))), ([(.agg [(.str [51]),(.str [52]),(.str [52])])], (.int .i64 (.ofNat 0))), ([(.agg [(.str [54,47,53]),(.str [56,47,53]),(.str [52])])], (.int .i64 (.ofNat 0)))]
theorem m62_0 : allG (ev 62) t62_0 = true := by kernel_rfl
def t62 : List (List AV × AV) := t62_0
theorem r62 : ∀ e ∈ t62, RowG P43 1 pow 62 e := (rows m62_0)
def t65_0 : List (List AV × AV) := [([(.int .i64 (.ofNat 0)),(.int .i64 (.ofNat 0)),(.int .i64 (.ofNat 1))], (.agg [(.str [48]),(.str [48]),(.str [49])])), ([(.int .i64 (.ofNat 1)),(.int .i64 (.ofNat 0)),(.int .i64 (.ofNat 0))], (.agg [(.str [49]),(.str [48]),(.str [48])]))]
theorem m65_0 : allG (ev 65) t65_0 = true := by kernel_rfl
def t65 : List (List AV × AV) := t65_0
theorem r65 : ∀ e ∈ t65, RowG P43 1 pow 65 e := (rows m65_0)
def t99_0 : List (List AV × AV) := [([(.agg [(.str [48]),(.str [48]),(.str [45,52])])], (.tup [(.str [52]),(.int .i64 (.ofNat 0))])), ([(.agg [(.str [48]),(.str [48]),(.str [45,54])])], (.tup [(.str [54]),(.int .i64 (.ofNat 0))])), ([(.agg [(.str [51]),(.str [52]),(.str [48])])], (.tup [(.str [53]),(.int .i64 (.ofNat 0))]))]
theorem m99_0 : allG (ev 99) t99_0 = true := by kernel_rfl
def t99 : List (List AV × AV) := t99_0
theorem r99 : ∀ e ∈ t99, RowG P43 1 pow 99 e := (rows m99_0)
noncomputable def lM : List (Nat × Orc) := [(101, memoE evA 101 t101), (107, memoE evA 107 t107), (137, memoE evA 137 t137), (138, memoE evA 138 t138), (141, memoE evA 141 t141), (15, memoE evA 15 t15), (16, memoE evA 16 t16), (193, memoE evA 193 t193), (196, memoE evA 196 t196), (197, memoE evA 197 t197), (24, memoE evA 24 t24), (262, memoE evA 262 t262), (263, memoE evA 263 t263), (267, memoE evA 267 t267), (280, memoE evA 280 t280), (282, memoE evA 282 t282), (296, memoE evA 296 t296), (30, memoE evA 30 t30), (306, memoE evA 306 t306), (313, memoE evA 313 t313), (340, memoE evA 340 t340), (40, memoE evA 40 t40), (47, memoE evA 47 t47), (50, memoE evA 50 t50), (54, memoE evA 54 t54), (55, memoE evA 55 t55), (59, memoE evA 59 t59), (61, memoE evA 61 t61), (62, memoE evA 62 t62), (65, memoE evA 65 t65), (99, memoE evA 99 t99)]
theorem lM_ok {B : Base} (hK : KG 1 pow B) : ∀ e ∈ lM, OrcOK B P43 e.1 e.2 := by
  intro e he
  simp only [lM, List.mem_cons, List.not_mem_nil, or_false] at he
  rcases he with rfl | rfl | rfl | rfl | rfl | rfl | rfl | rfl | rfl | rfl | rfl | rfl | rfl | rfl | rfl | rfl | rfl | rfl | rfl | rfl | rfl | rfl | rfl | rfl | rfl | rfl | rfl | rfl | rfl | rfl | rfl
  · exact memoE_ok mixed Td.tied (orcA_ok B) hK r101
  · exact memoE_ok mixed Td.tied (orcA_ok B) hK r107
  · exact memoE_ok mixed Td.tied (orcA_ok B) hK r137
  · exact memoE_ok mixed Td.tied (orcA_ok B) hK r138
  · exact memoE_ok mixed Td.tied (orcA_ok B) hK r141
  · exact memoE_ok mixed Td.tied (orcA_ok B) hK r15
  · exact memoE_ok mixed Td.tied (orcA_ok B) hK r16
  · exact memoE_ok mixed Td.tied (orcA_ok B) hK r193
  · exact memoE_ok mixed Td.tied (orcA_ok B) hK r196
  · exact memoE_ok mixed Td.tied (orcA_ok B) hK r197
  · exact memoE_ok mixed Td.tied (orcA_ok B) hK r24
  · exact memoE_ok mixed Td.tied (orcA_ok B) hK r262
  · exact memoE_ok mixed Td.tied (orcA_ok B) hK r263
  · exact memoE_ok mixed Td.tied (orcA_ok B) hK r267
  · exact memoE_ok mixed Td.tied (orcA_ok B) hK r280
  · exact memoE_ok mixed Td.tied (orcA_ok B) hK r282
  · exact memoE_ok mixed Td.tied (orcA_ok B) hK r296
  · exact memoE_ok mixed Td.tied (orcA_ok B) hK r30
  · exact memoE_ok mixed Td.tied (orcA_ok B) hK r306
  · exact memoE_ok mixed Td.tied (orcA_ok B) hK r313
  · exact memoE_ok mixed Td.tied (orcA_ok B) hK r340
  · exact memoE_ok mixed Td.tied (orcA_ok B) hK r40
  · exact memoE_ok mixed Td.tied (orcA_ok B) hK r47
  · exact memoE_ok mixed Td.tied (orcA_ok B) hK r50
  · exact memoE_ok mixed Td.tied (orcA_ok B) hK r54
  · exact memoE_ok mixed Td.tied (orcA_ok B) hK r55
  · exact memoE_ok mixed Td.tied (orcA_ok B) hK r59
  · exact memoE_ok mixed Td.tied (orcA_ok B) hK r61
  · exact memoE_ok mixed Td.tied (orcA_ok B) hK r62
  · exact memoE_ok mixed Td.tied (orcA_ok B) hK r65
  · exact memoE_ok mixed Td.tied (orcA_ok B) hK r99
end Ev.Me
end
