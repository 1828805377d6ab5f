/- Tables of answers of the rational functions, each row by a run. -/
import Derived.Test.YtlbmmpefejjjpaaGreatDoorGTd36

set_option linter.unusedSimpArgs false
set_option linter.unusedVariables false
section
namespace Ev.Me
open Go Ev Ev.Or
set_option maxRecDepth 1000000
noncomputable def ev (f : Nat) (args : List AV) : Option R := evA (.r f) args (g0 1 pow) 2
theorem rows {f : Nat} {t : List (List AV × AV)} (h : allG (ev f) t = true) : ∀ e ∈ t, RowG P36 1 pow f e := fun e he => row_okG (LF := 100000) (fuel := 200) mixed Td.tied (fun B _ => orcA_ok B) (allG_ok h e he)
theorem rowsA {f : Nat} {t u : List (List AV × AV)} (h : ∀ e ∈ t, RowG P36 1 pow f e) (k : ∀ e ∈ u, RowG P36 1 pow f e) : ∀ e ∈ t ++ u, RowG P36 1 pow f e := fun e he => (List.mem_append.1 he).elim (h e) (k e)
def t102_0 : List (List AV × AV) := [([(.agg [(.str [48]),(.str [48])]),(.agg [(.str [50]),(.str [48])]),(.agg [(.str [48]),(.str [49])])], (.int .i64 (.ofNat 1))), ([(.agg [(.str [48]),(.str [48])]),(.agg [(.str [50]),(.str [48])]),(.agg [(.str [50]),(.str [49])])], (.int .i64 (.ofNat 1))), ([(.agg [(.str [48]),(.str [49])]),(.agg [(.str [48]),(.str [48])]),(.agg [(.str [50]),(.str [48])])], (.int .i64 (.ofNat 1))), ([(.agg [(.str [48]),(.str [49])]),(.agg [(.str [48]),(.str [48])]),(.agg [(.str [50]),(.str [49])])], (.int .i64 (.ofNat 1))), ([(.agg [(.str [48]),(.str [49])]),(.agg [(.str [50]),(.str [49])]),(.agg [(.str [48]),(.str [50])])], (.int .i64 (.ofNat 1))), ([(.agg [(.str [48]),(.str [49])]),(.agg [(.str [50]),(.str [49])]),(.agg [(.str [50]),(.str [50])])], (.int .i64 (.ofNat 1))), ([(.agg [(.str [48]),(.str [50])]),(.agg [(.str [48]),(.str [49])]),(.agg [(.str [50]),(.str [49])])], (.int .i64 (.ofNat 1))), ([(.agg [(.str [48]),(.str [50])]),(.agg [(.str [48]),(.str [49])]),(.agg [(.str [50]),(.str [50])])], (.int .i64 (.ofNat 1))), ([(.agg [(.str [50]),(.str [48])]),(.agg [(.str [50]),(.str [49])]),(.agg [(.str [48]),(.str [48])])], (.int .i64 (.ofNat 1))), ([(.agg [(.str [50]),(.str [48])]),(.agg [(.str [50]),(.str [49])]),(.agg [(.str [48]),(.str [49])])], (.int .i64 (.ofNat 1)))]
theorem m102_0 : allG (ev 102) t102_0 = true := by kernel_rfl
def t102_1 : List (List AV × AV) := [([(.agg [(.str [50]),(.str [49])]),(.agg [(.str [48]),(.str [49])]),(.agg [(.str [48]),(.str [48])])], (.int .i64 (.ofNat 1))), ([(.agg [(.str [50]),(.str [49])]),(.agg [(.str [48]),(.str [49])]),(.agg [(.str [50]),(.str [48])])], (.int .i64 (.ofNat 1))), ([(.agg [(.str [50]),(.str [49])]),(.agg [(.str [50]),(.str [50])]),(.agg [(.str [48]),(.str [49])])], (.int .i64 (.ofNat 1))), ([(.agg [(.str [50]),(.str [49])]),(.agg [(.str [50]),(.str [50])]),(.agg [(.str [48]),(.str [50])])], (.int .i64 (.ofNat 1))), ([(.agg [(.str [50]),(.str [50])]),(.agg [(.str [48]),(.str [50])]),(.agg [(.str [48]),(.str [49])])], (.int .i64 (.ofNat 1))), ([(.agg [(.str [50]),(.str [50])]),(.agg [(.str [48]),(.str [50])]),(.agg [(.str [50]),(.str [49])])], (.int .i64 (.ofNat 1)))]
theorem m102_1 : allG (ev 102) t102_1 = true := by kernel_rfl
def t102 : List (List AV × AV) := (t102_0 ++ t102_1)
theorem r102 : ∀ e ∈ t102, RowG P36 1 pow 102 e := (rowsA (rows m102_0) (rows m102_1))
def t103_0 : List (List AV × AV) := [([(.agg [(.str [48]),(.str [49])]),(.agg [(.str [48]),(.str [48])])], (.int .i64 (.ofNat 1))), ([(.agg [(.str [48]),(.str [50])]),(.agg [(.str [48]),(.str [49])])], (.int .i64 (.ofNat 1))), ([(.agg [(.str [50]),(.str [48])]),(.agg [(.str [48]),(.str [48])])], (.int .i64 (.ofNat 1))), ([(.agg [(.str [50]),(.str [49])]),(.agg [(.str [48]),(.str [48])])], (.int .i64 (.ofNat 1))), ([(.agg [(.str [50]),(.str [49])]),(.agg [(.str [48]),(.str [49])])], (.int .i64 (.ofNat 1))), ([(.agg [(.str [50]),(.str [50])]),(.agg [(.str [48]),(.str [49])])], (.int .i64 (.ofNat 1)))]
theorem m103_0 : allG (ev 103) t103_0 = true := by kernel_rfl
def t103 : List (List AV × AV) := t103_0
theorem r103 : ∀ e ∈ t103, RowG P36 1 pow 103 e := (rows m103_0)
def t13_0 : List (List AV × AV) := [([(.int .i64 (.ofNat 0)),(.int .i64 (.ofNat 0))], (.agg [(.str [48]),(.str [48])])), ([(.int .i64 (.ofNat 0)),(.int .i64 (.ofNat 1))], (.agg [(.str [48]),(.str [49])])), ([(.int .i64 (.ofNat 0)),(.int .i64 (.ofNat 2))], (.agg [(.str [48]),(.str [50])])), ([(.int .i64 (.ofNat 2)),(.int .i64 (.ofNat 0))], (.agg [(.str [50]),(.str [48])])), ([(.int .i64 (.ofNat 2)),(.int .i64 (.ofNat 1))], (.agg [(.str [50]),(.str [49])])), ([(.int .i64 (.ofNat 2)),(.int .i64 (.ofNat 2))], (.agg [(.str [50]),(.str [50])]))]
theorem m13_0 : allG (ev 13) t13_0 = true := by kernel_rfl
def t13 : List (List AV × AV) := t13_0
theorem r13 : ∀ e ∈ t13, RowG P36 1 pow 13 e := (rows m13_0)
def t14_0 : List (List AV × AV) := [([(.str [98,97,115,101])], (.bool true))]
theorem m14_0 : allG (ev 14) t14_0 = true := by kernel_rfl
def t14 : List (List AV × AV) := t14_0
theorem r14 : ∀ e ∈ t14, RowG P36 1 pow 14 e := (rows m14_0)
def t159_0 : List (List AV × AV) := [([(.nil .slice),(.nil .slice)], (.bool true))]
theorem m159_0 : allG (ev 159) t159_0 = true := by kernel_rfl
def t159 : List (List AV × AV) := t159_0
theorem r159 : ∀ e ∈ t159, RowG P36 1 pow 159 e := (rows m159_0)
def t16_0 : List (List AV × AV) := [([(.int .i64 (.ofNat 0)),(.int .i64 (.ofNat 0)),(.int .i64 (.ofNat 1))], (.agg [(.str [48]),(.str [48]),(.str [49])])), ([(.int .i64 (.ofNat 1)),(.int .i64 (.ofNat 0)),(.int .i64 (.ofNat 0))], (.agg [(.str [49]),(.str [48]),(.str [48])]))]
theorem m16_0 : allG (ev 16) t16_0 = true := by kernel_rfl
def t16 : List (List AV × AV) := t16_0
theorem r16 : ∀ e ∈ t16, RowG P36 1 pow 16 e := (rows m16_0)
def t177_0 : List (List AV × AV) := [([(.str [48])], (.int .i64 (.ofNat 0))), ([(.str [49])], (.int .i64 (.ofNat 0)))]
theorem m177_0 : allG (ev 177) t177_0 = true := by kernel_rfl
def t177 : List (List AV × AV) := t177_0
theorem r177 : ∀ e ∈ t177, RowG P36 1 pow 177 e := (rows m177_0)
def t209_0 : List (List AV × AV) := [([(.agg [(.int .i64 (.ofNat 2)),(.str [102]),(.nil .slice),(.nil .slice),(.nil .slice),(.str [49]),(.str [48]),(.str [48]),(.str [50]),(.str [48]),(.str [48]),(.str [49]),(.str []),(.str []),(.str []),(.nil .slice),(.str []),(.str []),(.str []),(.str []),(.str []),(.str []),(.str []),(.str []),(.str []),(.int .i64 (.ofNat 0)),(.int .i64 (.ofNat 0)),(.int .i64 (.ofNat 0)),(.int .i64 (.ofNat 0)),(.str []),(.str []),(.str [])])], (.int .i64 (.ofNat 1)))]
theorem m209_0 : allG (ev 209) t209_0 = true := by kernel_rfl
def t209 : List (List AV × AV) := t209_0
theorem r209 : ∀ e ∈ t209, RowG P36 1 pow 209 e := (rows m209_0)
def t270_0 : List (List AV × AV) := [([(.agg [(.str [49]),(.str [48]),(.str [48]),(.str [50])])], (.int .i64 (.ofNat 0)))]
theorem m270_0 : allG (ev 270) t270_0 = true := by kernel_rfl
def t270 : List (List AV × AV) := t270_0
theorem r270 : ∀ e ∈ t270, RowG P36 1 pow 270 e := (rows m270_0)
def t271_0 : List (List AV × AV) := [([(.agg [(.str [48]),(.str [48]),(.str [49])]),(.agg [(.str [49]),(.str [48]),(.str [48])])], (.int .i64 (.ofNat 0)))]
theorem m271_0 : allG (ev 271) t271_0 = true := by kernel_rfl
def t271 : List (List AV × AV) := t271_0
theorem r271 : ∀ e ∈ t271, RowG P36 1 pow 271 e := (rows m271_0)
def t36_0 : List (List AV × AV) := [([(.agg [(.str [48]),(.str [49])]),(.agg [(.str [48]),(.str [48])])], (.int .i64 (.ofNat 1))), ([(.agg [(.str [48]),(.str [49])]),(.agg [(.str [48]),(.str [49])])], (.int .i64 (.ofNat 0))), ([(.agg [(.str [48]),(.str [49])]),(.agg [(.str [50]),(.str [49])])], (.int .i64 (.negSucc 0))), ([(.agg [(.str [48]),(.str [50])]),(.agg [(.str [48]),(.str [49])])], (.int .i64 (.ofNat 1))), ([(.agg [(.str [50]),(.str [48])]),(.agg [(.str [50]),(.str [49])])], (.int .i64 (.negSucc 0))), ([(.agg [(.str [50]),(.str [49])]),(.agg [(.str [48]),(.str [49])])], (.int .i64 (.ofNat 1))), ([(.agg [(.str [50]),(.str [49])]),(.agg [(.str [50]),(.str [49])])], (.int .i64 (.ofNat 0))), ([(.agg [(.str [50]),(.str [49])]),(.agg [(.str [50]),(.str [50])])], (.int .i64 (.negSucc 0)))]
theorem m36_0 : allG (ev 36) t36_0 = true := by kernel_rfl
def t36 : List (List AV × AV) := t36_0
theorem r36 : ∀ e ∈ t36, RowG P36 1 pow 36 e := (rows m36_0)
def t48_0 : List (List AV × AV) := [([(.agg [(.str [50]),(.str [49])]),(.agg [(.str [48]),(.str [49])])], (.int .i64 (.ofNat 1)))]
theorem m48_0 : allG (ev 48) t48_0 = true := by kernel_rfl
def t48 : List (List AV × AV) := t48_0
theorem r48 : ∀ e ∈ t48, RowG P36 1 pow 48 e := (rows m48_0)
def t51_0 : List (List AV × AV) := [([(.agg [(.int .u8 (.ofNat 0)),(.int .i8 (.ofNat 0)),(.int .i8 (.ofNat 0)),(.bool false)]),(.agg [(.int .i8 (.ofNat 0)),(.int .i8 (.ofNat 0))]),(.int .i64 (.ofNat 1))], (.agg [(.str [48]),(.str [48])])), ([(.agg [(.int .u8 (.ofNat 0)),(.int .i8 (.ofNat 0)),(.int .i8 (.ofNat 0)),(.bool false)]),(.agg [(.int .i8 (.ofNat 0)),(.int .i8 (.ofNat 4))]),(.int .i64 (.ofNat 1))], (.agg [(.str [48]),(.str [52])])), ([(.agg [(.int .u8 (.ofNat 0)),(.int .i8 (.ofNat 0)),(.int .i8 (.ofNat 0)),(.bool false)]),(.agg [(.int .i8 (.ofNat 4)),(.int .i8 (.ofNat 0))]),(.int .i64 (.ofNat 1))], (.agg [(.str [52]),(.str [48])])), ([(.agg [(.int .u8 (.ofNat 0)),(.int .i8 (.ofNat 0)),(.int .i8 (.ofNat 0)),(.bool false)]),(.agg [(.int .i8 (.ofNat 4)),(.int .i8 (.ofNat 4))]),(.int .i64 (.ofNat 1))], (.agg [(.str [52]),(.str [52])]))]
theorem m51_0 : allG (ev 51) t51_0 = true := by kernel_rfl
def t51 : List (List AV × AV) := t51_0
theorem r51 : ∀ e ∈ t51, RowG P36 1 pow 51 e := (rows m51_0)
def t60_0 : List (List AV × AV) := [([(.agg [(.int .i64 (.ofNat 2)),(.str [102]),(.nil .slice),(.nil .slice),(.nil .slice),(.str [49]),(.str [48]),(.str [48]),(.str [50]),(.str [48]),(.str [48]),(.str [49]),(.str []),(.str []),(.str []),(.nil .slice),(.str []),(.str []),(.str []),(.str []),(.str []),(.str []),(.str []),(.str []),(.str []),(.int .i64 (.ofNat 0)),(.int .i64 (.ofNat 0)),(.int .i64 (.ofNat 0)),(.int .i64 (.ofNat 0)),(.str []),(.str []),(.str [])])], (.nil .slice))]
theorem m60_0 : allG (ev 60) t60_0 = true := by kernel_rfl
def t60 : List (List AV × AV) := t60_0
theorem r60 : ∀ e ∈ t60, RowG P36 1 pow 60 e := (rows m60_0)
def t64_0 : List (List AV × AV) := [([(.agg [(.str [48]),(.str [49])]),(.agg [(.str [50]),(.str [49])]),(.agg [(.str [48]),(.str [48])])], (.int .i64 (.negSucc 0))), ([(.agg [(.str [48]),(.str [49])]),(.agg [(.str [50]),(.str [49])]),(.agg [(.str [48]),(.str [49])])], (.int .i64 (.ofNat 0))), ([(.agg [(.str [48]),(.str [49])]),(.agg [(.str [50]),(.str [49])]),(.agg [(.str [50]),(.str [48])])], (.int .i64 (.negSucc 0))), ([(.agg [(.str [48]),(.str [49])]),(.agg [(.str [50]),(.str [49])]),(.agg [(.str [50]),(.str [49])])], (.int .i64 (.ofNat 0))), ([(.agg [(.str [48]),(.str [50])]),(.agg [(.str [48]),(.str [49])]),(.agg [(.str [48]),(.str [48])])], (.int .i64 (.ofNat 0))), ([(.agg [(.str [48]),(.str [50])]),(.agg [(.str [48]),(.str [49])]),(.agg [(.str [48]),(.str [49])])], (.int .i64 (.ofNat 0))), ([(.agg [(.str [48]),(.str [50])]),(.agg [(.str [48]),(.str [49])]),(.agg [(.str [50]),(.str [48])])], (.int .i64 (.ofNat 1))), ([(.agg [(.str [48]),(.str [50])]),(.agg [(.str [48]),(.str [49])]),(.agg [(.str [50]),(.str [49])])], (.int .i64 (.ofNat 1))), ([(.agg [(.str [50]),(.str [49])]),(.agg [(.str [50]),(.str [50])]),(.agg [(.str [48]),(.str [48])])], (.int .i64 (.ofNat 1))), ([(.agg [(.str [50]),(.str [49])]),(.agg [(.str [50]),(.str [50])]),(.agg [(.str [48]),(.str [49])])], (.int .i64 (.ofNat 1)))]
theorem m64_0 : allG (ev 64) t64_0 = true := by kernel_rfl
def t64_1 : List (List AV × AV) := [([(.agg [(.str [50]),(.str [49])]),(.agg [(.str [50]),(.str [50])]),(.agg [(.str [50]),(.str [48])])], (.int .i64 (.ofNat 0))), ([(.agg [(.str [50]),(.str [49])]),(.agg [(.str [50]),(.str [50])]),(.agg [(.str [50]),(.str [49])])], (.int .i64 (.ofNat 0))), ([(.agg [(.str [50]),(.str [50])]),(.agg [(.str [48]),(.str [50])]),(.agg [(.str [48]),(.str [48])])], (.int .i64 (.ofNat 1))), ([(.agg [(.str [50]),(.str [50])]),(.agg [(.str [48]),(.str [50])]),(.agg [(.str [48]),(.str [49])])], (.int .i64 (.ofNat 1))), ([(.agg [(.str [50]),(.str [50])]),(.agg [(.str [48]),(.str [50])]),(.agg [(.str [50]),(.str [48])])], (.int .i64 (.ofNat 1))), ([(.agg [(.str [50]),(.str [50])]),(.agg [(.str [48]),(.str [50])]),(.agg [(.str [50]),(.str [49])])], (.int .i64 (.ofNat 1)))]
theorem m64_1 : allG (ev 64) t64_1 = true := by kernel_rfl
def t64 : List (List AV × AV) := (t64_0 ++ t64_1)
theorem r64 : ∀ e ∈ t64, RowG P36 1 pow 64 e := (rowsA (rows m64_0) (rows m64_1))
def t66_0 : List (List AV × AV) := [([(.str [48]),(.str [48])], (.int .i64 (.ofNat 0))), ([(.str [48]),(.str [49])], (.int .i64 (.negSucc 0))), ([(.str [48]),(.str [52])], (.int .i64 (.negSucc 0))), ([(.str [52]),(.str [48])], (.int .i64 (.ofNat 1))), ([(.str [52]),(.str [52])], (.int .i64 (.ofNat 0)))]
theorem m66_0 : allG (ev 66) t66_0 = true := by kernel_rfl
def t66 : List (List AV × AV) := t66_0
theorem r66 : ∀ e ∈ t66, RowG P36 1 pow 66 e := (rows m66_0)
def t77_0 : List (List AV × AV) := [([(.agg [(.str [48]),(.str [48])])], (.int .i64 (.ofNat 0))), ([(.agg [(.str [48]),(.str [49])])], (.int .i64 (.ofNat 0))), ([(.agg [(.str [48]),(.str [50])])], (.int .i64 (.ofNat 0))), ([(.agg [(.str [48]),(.str [52])])], (.int .i64 (.ofNat 0))), ([(.agg [(.str [50]),(.str [48])])], (.int .i64 (.ofNat 0))), ([(.agg [(.str [50]),(.str [49])])], (.int .i64 (.ofNat 0))), ([(.agg [(.str [50]),(.str [50])])], (.int .i64 (.ofNat 0))), ([(.agg [(.str [52]),(.str [48])])], (.int .i64 (.ofNat 0))), ([(.agg [(.str [52]),(.str [52])])], (.int .i64 (.ofNat 0)))]
theorem m77_0 : allG (ev 77) t77_0 = true := by kernel_rfl
def t77 : List (List AV × AV) := t77_0
theorem r77 : ∀ e ∈ t77, RowG P36 1 pow 77 e := (rows m77_0)
def t93_0 : List (List AV × AV) := [([(.agg [(.str [48]),(.str [48])]),(.agg [(.str [52]),(.str [48])]),(.agg [(.str [52]),(.str [52])])], (.int .i64 (.ofNat 1))), ([(.agg [(.str [48]),(.str [48])]),(.agg [(.str [52]),(.str [52])]),(.agg [(.str [48]),(.str [52])])], (.int .i64 (.ofNat 1))), ([(.agg [(.str [48]),(.str [52])]),(.agg [(.str [48]),(.str [48])]),(.agg [(.str [52]),(.str [48])])], (.int .i64 (.ofNat 1))), ([(.agg [(.str [52]),(.str [48])]),(.agg [(.str [52]),(.str [52])]),(.agg [(.str [48]),(.str [52])])], (.int .i64 (.ofNat 1))), ([(.agg [(.str [52]),(.str [52])]),(.agg [(.str [48]),(.str [52])]),(.agg [(.str [48]),(.str [48])])], (.int .i64 (.ofNat 1)))]
theorem m93_0 : allG (ev 93) t93_0 = true := by kernel_rfl
def t93 : List (List AV × AV) := t93_0
theorem r93 : ∀ e ∈ t93, RowG P36 1 pow 93 e := (rows m93_0)
def t96_0 : List (List AV × AV) := [([(.str [100])], (.int .i64 (.ofNat 0))), ([(.str [102])], (.int .i64 (.ofNat 0))), ([(.str [97])], (.int .i64 (.ofNat 0))), ([(.str [98])], (.int .i64 (.ofNat 0)))]
theorem m96_0 : allG (ev 96) t96_0 = true := by kernel_rfl
def t96 : List (List AV × AV) := t96_0
theorem r96 : ∀ e ∈ t96, RowG P36 1 pow 96 e := (rows m96_0)
def t98_0 : List (List AV × AV) := [([(.agg [(.int .i64 (.ofNat 2)),(.str [102]),(.nil .slice),(.nil .slice),(.nil .slice),(.str [49]),(.str [48]),(.str [48]),(.str [50]),(.str [48]),(.str [48]),(.str [49]),(.str []),(.str []),(.str []),(.nil .slice),(.str []),(.str []),(.str []),(.str []),(.str []),(.str []),(.str []),(.str []),(.str []),(.int .i64 (.ofNat 0)),(.int .i64 (.ofNat 0)),(.int .i64 (.ofNat 0)),(.int .i64 (.ofNat 0)),(.str []),(.str []),(.str [])]),(.agg [(.int .i64 (.ofNat 2)),(.str [102]),(.nil .slice),(.nil .slice),(.nil .slice),(.str [49]),(.str [48]),(.str [48]),(.str [50]),(.str [48]),(.str [48]),(.str [49]),(.str []),(.str []),(.str []),(.nil .slice),(.str []),(.str []),(.str []),(.str []),(.str []),(.str []),(.str []),(.str []),(.str []),(.int .i64 (.ofNat 0)),(.int .i64 (.ofNat 0)),(.int .i64 (.ofNat 0)),(.int .i64 (.ofNat 0)),(.str []),(.str []),(.str [])])], (.bool true))]
theorem m98_0 : allG (ev 98) t98_0 = true := by kernel_rfl
def t98 : List (List AV × AV) := t98_0
theorem r98 : ∀ e ∈ t98, RowG P36 1 pow 98 e := (rows m98_0)
noncomputable def lM : List (Nat × Orc) := [(102, memoE evA 102 t102), (103, memoE evA 103 t103), (13, memoE evA 13 t13), (14, memoE evA 14 t14), (159, memoE evA 159 t159), (16, memoE evA 16 t16), (177, memoE evA 177 t177), (209, memoE evA 209 t209), (270, memoE evA 270 t270), (271, memoE evA 271 t271), (36, memoE evA 36 t36), (48, memoE evA 48 t48), (51, memoE evA 51 t51), (60, memoE evA 60 t60), (64, memoE evA 64 t64), (66, memoE evA 66 t66), (77, memoE evA 77 t77), (93, memoE evA 93 t93), (96, memoE evA 96 t96), (98, memoE evA 98 t98)]
theorem lM_ok {B : Base} (hK : KG 1 pow B) : ∀ e ∈ lM, OrcOK B P36 e.1 e.2 := by
  intro e he
  simp only [lM, List.mem_cons, List.not_mem_nil, or_false] at he
  rcases he with rfl | rfl | rfl | rfl | rfl | rfl | rfl | rfl | rfl | rfl | rfl | rfl | rfl | rfl | rfl | rfl | rfl | rfl | rfl | rfl
  · exact memoE_ok mixed Td.tied (orcA_ok B) hK r102
  · exact memoE_ok mixed Td.tied (orcA_ok B) hK r103
  · exact memoE_ok mixed Td.tied (orcA_ok B) hK r13
  · exact memoE_ok mixed Td.tied (orcA_ok B) hK r14
  · exact memoE_ok mixed Td.tied (orcA_ok B) hK r159
  · exact memoE_ok mixed Td.tied (orcA_ok B) hK r16
  · exact memoE_ok mixed Td.tied (orcA_ok B) hK r177
  · exact memoE_ok mixed Td.tied (orcA_ok B) hK r209
  · exact memoE_ok mixed Td.tied (orcA_ok B) hK r270
  · exact memoE_ok mixed Td.tied (orcA_ok B) hK r271
  · exact memoE_ok mixed Td.tied (orcA_ok B) hK r36
  · exact memoE_ok mixed Td.tied (orcA_ok B) hK r48
  · exact memoE_ok mixed Td.tied (orcA_ok B) hK r51
  · exact memoE_ok mixed Td.tied (orcA_ok B) hK r60
  · exact memoE_ok mixed Td.tied (orcA_ok B) hK r64
  · exact memoE_ok mixed Td.tied (orcA_ok B) hK r66
  · exact memoE_ok mixed Td.tied (orcA_ok B) hK r77
  · exact memoE_ok mixed Td.tied (orcA_ok B) hK r93
  · exact memoE_ok mixed Td.tied (orcA_ok B) hK r96
  · exact memoE_ok mixed Td.tied (orcA_ok B) hK r98
end Ev.Me
end
