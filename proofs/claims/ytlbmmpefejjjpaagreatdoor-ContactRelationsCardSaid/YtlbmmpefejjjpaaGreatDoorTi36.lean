/- Parts of the proof. -/
import Derived.Test.YtlbmmpefejjjpaaGreatDoorIR36
import Derived.Test.YtlbmmpefejjjpaaGreatDoorGEwD
import Derived.Test.YtlbmmpefejjjpaaGreatDoorProg
import Derived.KernelRfl

set_option linter.unusedSimpArgs false
set_option linter.unusedVariables false
section
open Go Ev
namespace Ev.Ti
set_option maxRecDepth 100000
def at_ (P : Program) (k : Nat) : Option IFn := bo (P.funcs[k]?) fun fn => gd (!(fn.name == "runtime.NumGoroutine")) (compFn P fn)
theorem t3 : at_ Go.Proofs.Tryz.prog 3 = some I.I3 := by kernel_rfl
theorem t4 : at_ Go.Proofs.Tryz.prog 4 = some I.I4 := by kernel_rfl
theorem t5 : at_ Go.Proofs.Tryz.prog 5 = some I.I5 := by kernel_rfl
theorem t6 : at_ Go.Proofs.Tryz.prog 6 = some I.I6 := by kernel_rfl
theorem t7 : at_ Go.Proofs.Tryz.prog 7 = some I.I7 := by kernel_rfl
theorem t8 : at_ Go.Proofs.Tryz.prog 8 = some I.I8 := by kernel_rfl
theorem t9 : at_ Go.Proofs.Tryz.prog 9 = some I.I9 := by kernel_rfl
theorem t10 : at_ Go.Proofs.Tryz.prog 10 = some I.I10 := by kernel_rfl
theorem t11 : at_ Go.Proofs.Tryz.prog 11 = some I.I11 := by kernel_rfl
theorem t12 : at_ Go.Proofs.Tryz.prog 12 = some I.I12 := by kernel_rfl
theorem t13 : at_ Go.Proofs.Tryz.prog 13 = some I.I13 := by kernel_rfl
theorem t14 : at_ Go.Proofs.Tryz.prog 14 = some I.I14 := by kernel_rfl
theorem t15 : at_ Go.Proofs.Tryz.prog 15 = some I.I15 := by kernel_rfl
theorem t16 : at_ Go.Proofs.Tryz.prog 16 = some I.I16 := by kernel_rfl
theorem t17 : at_ Go.Proofs.Tryz.prog 17 = some I.I17 := by kernel_rfl
theorem t18 : at_ Go.Proofs.Tryz.prog 18 = some I.I18 := by kernel_rfl
theorem t19 : at_ Go.Proofs.Tryz.prog 19 = some I.I19 := by kernel_rfl
theorem t20 : at_ Go.Proofs.Tryz.prog 20 = some I.I20 := by kernel_rfl
theorem t22 : at_ Go.Proofs.Tryz.prog 22 = some I.I22 := by kernel_rfl
theorem t25 : at_ Go.Proofs.Tryz.prog 25 = some I.I25 := by kernel_rfl
theorem t26 : at_ Go.Proofs.Tryz.prog 26 = some I.I26 := by kernel_rfl
theorem t27 : at_ Go.Proofs.Tryz.prog 27 = some I.I27 := by kernel_rfl
theorem t29 : at_ Go.Proofs.Tryz.prog 29 = some I.I29 := by kernel_rfl
theorem t30 : at_ Go.Proofs.Tryz.prog 30 = some I.I30 := by kernel_rfl
theorem t31 : at_ Go.Proofs.Tryz.prog 31 = some I.I31 := by kernel_rfl
theorem t32 : at_ Go.Proofs.Tryz.prog 32 = some I.I32 := by kernel_rfl
theorem t33 : at_ Go.Proofs.Tryz.prog 33 = some I.I33 := by kernel_rfl
theorem t34 : at_ Go.Proofs.Tryz.prog 34 = some I.I34 := by kernel_rfl
theorem t36 : at_ Go.Proofs.Tryz.prog 36 = some I.I36 := by kernel_rfl
theorem t37 : at_ Go.Proofs.Tryz.prog 37 = some I.I37 := by kernel_rfl
theorem t38 : at_ Go.Proofs.Tryz.prog 38 = some I.I38 := by kernel_rfl
theorem t41 : at_ Go.Proofs.Tryz.prog 41 = some I.I41 := by kernel_rfl
theorem t42 : at_ Go.Proofs.Tryz.prog 42 = some I.I42 := by kernel_rfl
theorem t43 : at_ Go.Proofs.Tryz.prog 43 = some I.I43 := by kernel_rfl
theorem t45 : at_ Go.Proofs.Tryz.prog 45 = some I.I45 := by kernel_rfl
theorem t48 : at_ Go.Proofs.Tryz.prog 48 = some I.I48 := by kernel_rfl
theorem t49 : at_ Go.Proofs.Tryz.prog 49 = some I.I49 := by kernel_rfl
theorem t50 : at_ Go.Proofs.Tryz.prog 50 = some I.I50 := by kernel_rfl
theorem t51 : at_ Go.Proofs.Tryz.prog 51 = some I.I51 := by kernel_rfl
theorem t58 : at_ Go.Proofs.Tryz.prog 58 = some I.I58 := by kernel_rfl
theorem t59 : at_ Go.Proofs.Tryz.prog 59 = some I.I59 := by kernel_rfl
theorem t60 : at_ Go.Proofs.Tryz.prog 60 = some I.I60 := by kernel_rfl
theorem t61 : at_ Go.Proofs.Tryz.prog 61 = some I.I61 := by kernel_rfl
theorem t62 : at_ Go.Proofs.Tryz.prog 62 = some I.I62 := by kernel_rfl
theorem t63 : at_ Go.Proofs.Tryz.prog 63 = some I.I63 := by kernel_rfl
theorem t64 : at_ Go.Proofs.Tryz.prog 64 = some I.I64 := by kernel_rfl
theorem t65 : at_ Go.Proofs.Tryz.prog 65 = some I.I65 := by kernel_rfl
theorem t66 : at_ Go.Proofs.Tryz.prog 66 = some I.I66 := by kernel_rfl
theorem t67 : at_ Go.Proofs.Tryz.prog 67 = some I.I67 := by kernel_rfl
theorem t76 : at_ Go.Proofs.Tryz.prog 76 = some I.I76 := by kernel_rfl
theorem t77 : at_ Go.Proofs.Tryz.prog 77 = some I.I77 := by kernel_rfl
theorem t78 : at_ Go.Proofs.Tryz.prog 78 = some I.I78 := by kernel_rfl
theorem t80 : at_ Go.Proofs.Tryz.prog 80 = some I.I80 := by kernel_rfl
theorem t84 : at_ Go.Proofs.Tryz.prog 84 = some I.I84 := by kernel_rfl
theorem t85 : at_ Go.Proofs.Tryz.prog 85 = some I.I85 := by kernel_rfl
theorem t86 : at_ Go.Proofs.Tryz.prog 86 = some I.I86 := by kernel_rfl
theorem t93 : at_ Go.Proofs.Tryz.prog 93 = some I.I93 := by kernel_rfl
theorem t94 : at_ Go.Proofs.Tryz.prog 94 = some I.I94 := by kernel_rfl
theorem t96 : at_ Go.Proofs.Tryz.prog 96 = some I.I96 := by kernel_rfl
theorem t97 : at_ Go.Proofs.Tryz.prog 97 = some I.I97 := by kernel_rfl
theorem t98 : at_ Go.Proofs.Tryz.prog 98 = some I.I98 := by kernel_rfl
theorem t99 : at_ Go.Proofs.Tryz.prog 99 = some I.I99 := by kernel_rfl
theorem t100 : at_ Go.Proofs.Tryz.prog 100 = some I.I100 := by kernel_rfl
theorem t101 : at_ Go.Proofs.Tryz.prog 101 = some I.I101 := by kernel_rfl
theorem t102 : at_ Go.Proofs.Tryz.prog 102 = some I.I102 := by kernel_rfl
theorem t103 : at_ Go.Proofs.Tryz.prog 103 = some I.I103 := by kernel_rfl
theorem t104 : at_ Go.Proofs.Tryz.prog 104 = some I.I104 := by kernel_rfl
theorem t105 : at_ Go.Proofs.Tryz.prog 105 = some I.I105 := by kernel_rfl
theorem t106 : at_ Go.Proofs.Tryz.prog 106 = some I.I106 := by kernel_rfl
theorem t114 : at_ Go.Proofs.Tryz.prog 114 = some I.I114 := by kernel_rfl
theorem t123 : at_ Go.Proofs.Tryz.prog 123 = some I.I123 := by kernel_rfl
theorem t126 : at_ Go.Proofs.Tryz.prog 126 = some I.I126 := by kernel_rfl
theorem t134 : at_ Go.Proofs.Tryz.prog 134 = some I.I134 := by kernel_rfl
theorem t135 : at_ Go.Proofs.Tryz.prog 135 = some I.I135 := by kernel_rfl
theorem t147 : at_ Go.Proofs.Tryz.prog 147 = some I.I147 := by kernel_rfl
theorem t148 : at_ Go.Proofs.Tryz.prog 148 = some I.I148 := by kernel_rfl
theorem t149 : at_ Go.Proofs.Tryz.prog 149 = some I.I149 := by kernel_rfl
theorem t150 : at_ Go.Proofs.Tryz.prog 150 = some I.I150 := by kernel_rfl
theorem t151 : at_ Go.Proofs.Tryz.prog 151 = some I.I151 := by kernel_rfl
theorem t155 : at_ Go.Proofs.Tryz.prog 155 = some I.I155 := by kernel_rfl
theorem t156 : at_ Go.Proofs.Tryz.prog 156 = some I.I156 := by kernel_rfl
theorem t157 : at_ Go.Proofs.Tryz.prog 157 = some I.I157 := by kernel_rfl
theorem t158 : at_ Go.Proofs.Tryz.prog 158 = some I.I158 := by kernel_rfl
theorem t159 : at_ Go.Proofs.Tryz.prog 159 = some I.I159 := by kernel_rfl
theorem t160 : at_ Go.Proofs.Tryz.prog 160 = some I.I160 := by kernel_rfl
theorem t161 : at_ Go.Proofs.Tryz.prog 161 = some I.I161 := by kernel_rfl
theorem t162 : at_ Go.Proofs.Tryz.prog 162 = some I.I162 := by kernel_rfl
theorem t163 : at_ Go.Proofs.Tryz.prog 163 = some I.I163 := by kernel_rfl
theorem t164 : at_ Go.Proofs.Tryz.prog 164 = some I.I164 := by kernel_rfl
theorem t168 : at_ Go.Proofs.Tryz.prog 168 = some I.I168 := by kernel_rfl
theorem t169 : at_ Go.Proofs.Tryz.prog 169 = some I.I169 := by kernel_rfl
theorem t172 : at_ Go.Proofs.Tryz.prog 172 = some I.I172 := by kernel_rfl
theorem t177 : at_ Go.Proofs.Tryz.prog 177 = some I.I177 := by kernel_rfl
theorem t182 : at_ Go.Proofs.Tryz.prog 182 = some I.I182 := by kernel_rfl
theorem t194 : at_ Go.Proofs.Tryz.prog 194 = some I.I194 := by kernel_rfl
theorem t197 : at_ Go.Proofs.Tryz.prog 197 = some I.I197 := by kernel_rfl
theorem t198 : at_ Go.Proofs.Tryz.prog 198 = some I.I198 := by kernel_rfl
theorem t199 : at_ Go.Proofs.Tryz.prog 199 = some I.I199 := by kernel_rfl
theorem t202 : at_ Go.Proofs.Tryz.prog 202 = some I.I202 := by kernel_rfl
theorem t203 : at_ Go.Proofs.Tryz.prog 203 = some I.I203 := by kernel_rfl
theorem t204 : at_ Go.Proofs.Tryz.prog 204 = some I.I204 := by kernel_rfl
theorem t207 : at_ Go.Proofs.Tryz.prog 207 = some I.I207 := by kernel_rfl
theorem t208 : at_ Go.Proofs.Tryz.prog 208 = some I.I208 := by kernel_rfl
theorem t209 : at_ Go.Proofs.Tryz.prog 209 = some I.I209 := by kernel_rfl
theorem t227 : at_ Go.Proofs.Tryz.prog 227 = some I.I227 := by kernel_rfl
theorem t228 : at_ Go.Proofs.Tryz.prog 228 = some I.I228 := by kernel_rfl
theorem t230 : at_ Go.Proofs.Tryz.prog 230 = some I.I230 := by kernel_rfl
theorem t232 : at_ Go.Proofs.Tryz.prog 232 = some I.I232 := by kernel_rfl
theorem t235 : at_ Go.Proofs.Tryz.prog 235 = some I.I235 := by kernel_rfl
theorem t236 : at_ Go.Proofs.Tryz.prog 236 = some I.I236 := by kernel_rfl
theorem t239 : at_ Go.Proofs.Tryz.prog 239 = some I.I239 := by kernel_rfl
theorem t247 : at_ Go.Proofs.Tryz.prog 247 = some I.I247 := by kernel_rfl
theorem t253 : at_ Go.Proofs.Tryz.prog 253 = some I.I253 := by kernel_rfl
theorem t254 : at_ Go.Proofs.Tryz.prog 254 = some I.I254 := by kernel_rfl
theorem t255 : at_ Go.Proofs.Tryz.prog 255 = some I.I255 := by kernel_rfl
theorem t257 : at_ Go.Proofs.Tryz.prog 257 = some I.I257 := by kernel_rfl
theorem t262 : at_ Go.Proofs.Tryz.prog 262 = some I.I262 := by kernel_rfl
theorem t264 : at_ Go.Proofs.Tryz.prog 264 = some I.I264 := by kernel_rfl
theorem t265 : at_ Go.Proofs.Tryz.prog 265 = some I.I265 := by kernel_rfl
theorem t266 : at_ Go.Proofs.Tryz.prog 266 = some I.I266 := by kernel_rfl
theorem t268 : at_ Go.Proofs.Tryz.prog 268 = some I.I268 := by kernel_rfl
theorem t270 : at_ Go.Proofs.Tryz.prog 270 = some I.I270 := by kernel_rfl
theorem t271 : at_ Go.Proofs.Tryz.prog 271 = some I.I271 := by kernel_rfl
theorem t272 : at_ Go.Proofs.Tryz.prog 272 = some I.I272 := by kernel_rfl
theorem t280 : at_ Go.Proofs.Tryz.prog 280 = some I.I280 := by kernel_rfl
theorem t281 : at_ Go.Proofs.Tryz.prog 281 = some I.I281 := by kernel_rfl
theorem t283 : at_ Go.Proofs.Tryz.prog 283 = some I.I283 := by kernel_rfl
theorem t288 : at_ Go.Proofs.Tryz.prog 288 = some I.I288 := by kernel_rfl
theorem t289 : at_ Go.Proofs.Tryz.prog 289 = some I.I289 := by kernel_rfl
theorem t298 : at_ Go.Proofs.Tryz.prog 298 = some I.I298 := by kernel_rfl
theorem t300 : at_ Go.Proofs.Tryz.prog 300 = some I.I300 := by kernel_rfl
theorem t302 : at_ Go.Proofs.Tryz.prog 302 = some I.I302 := by kernel_rfl
end Ev.Ti
end
