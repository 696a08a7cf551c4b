/-
  Part of a proof: lemmas and definitions of this work.
  No condition.
-/
import Derived.Test.YtmfankbjapjjiaaGreatA06
import Derived.Test.YtmfankbjapjjiaaGreatA50
set_option linter.all false
set_option maxRecDepth 100000
set_option maxHeartbeats 8000000
namespace Go.Eng
open Go Go.Proofs Go.Proofs.Tryz
noncomputable section
theorem zx:bG Tryz.prog 182=some 1:=by kernel_rfl
theorem zy:dm Tryz.prog 182=some false:=by kernel_rfl
theorem zA:cZ Tryz.prog 4=some [(.bool false)]:=by kernel_rfl
theorem zB:cZ Tryz.prog 184=some [(.slice none 0 0),(.slice none 0 0),(.int .i64 0),(.int .i64 0),(.slice none 0 0),(.int .i64 0),(.slice none 0 0),(.slice none 0 0),(.int .i64 0),(.int .i64 0),(.int .i64 0),(.int .i64 0),(.int .i64 0),(.slice none 0 0),(.int .i64 0),(.int .i64 0),(.int .i64 0),(.int .i64 0),(.int .i64 0),(.int .i64 0),(.int .i64 0),(.int .i64 0),(.slice none 0 0),(.int .i64 0),(.slice none 0 0),(.slice none 0 0),(.int .i64 0),(.slice none 0 0),(.slice none 0 0),(.slice none 0 0),(.int .i64 0),(.slice none 0 0),(.slice none 0 0),(.slice none 0 0),(.slice none 0 0),(.int .i64 0),(.slice none 0 0),(.int .i64 0),(.int .i64 0)]:=by kernel_rfl
theorem zC:cZ Tryz.prog 323=some [(.int .i64 0),(.int .i64 0),(.int .i64 0),(.int .i64 0)]:=by kernel_rfl
theorem zD:tV Tryz.prog 185=some .nilFunc:=by kernel_rfl
theorem XM:Tryz.prog.stoodInHeld 295=false:=by kernel_rfl
theorem XO:Tryz.prog.eqGuardType Tryz.prog.depth 295=false:=by kernel_rfl
attribute [local go_sem] aB f5 f13 f14 f24 f34 f35 f36 f39 f40 f41 f42 f56 f57 f59 f62 f64 f65 f71 f74 f75 f76 f77 f78 f96 f97 f98 f104 f105 f106 f109 f110 f111 f129 f130 f131 f144 f145 f146 f147 f148 f150 f154 f156 f157 f165 f166 f170 f171 f172 f173 f174 f175 f187 f188 f189 f190 f191 f192 f193 f196 f197 f198 f200 f203 f209 f223 f224 f225 f227 f228 f229 f233 f234 f235 f242 f243 f244 f245 f246 f247 f248 f249 f255 f294 f295 f296 f297 f299 f300 f301 f302 f303 f304 f311 f312 f313 f362 f363 f365 f366 f368 f369 f370 f376 f377 f407 fM kQ lU strip qD pF Option.bind List.filterMap reduceIte Bool.false_eq_true Bool.and_true Bool.and_self Bool.true_and and_self and_true true_and List.all List.map List.isEmpty Option.isSome ne_eq not_false_eq_true not_true_eq_false reduceCtorEq String.reduceEq String.reduceNe List.length_cons List.length_nil Nat.reduceAdd Nat.reduceMul Nat.reduceLT Nat.reduceLeDiff Nat.zero_add Value.oneCell' Nat.reduceEqDiff Option.getD List.getElem?_toArray List.getElem?_cons_zero List.getElem?_cons_succ List.size_toArray if_true if_false List.any Array.size decide_true decide_false underlying3 underlying4 underlying5 underlying9 underlying22 underlying26 underlying27 underlying28 underlying29 underlying31 underlying33 underlying34 underlying36 underlying38 underlying39 underlying40 underlying41 underlying43 underlying45 underlying46 underlying48 underlying49 underlying51 underlying53 underlying54 underlying55 underlying57 underlying59 underlying61 underlying63 underlying65 underlying66 underlying72 underlying76 underlying85 underlying89 underlying90 underlying92 underlying94 underlying96 underlying97 underlying98 underlying100 underlying102 underlying104 underlying116 underlying118 underlying151 underlying164 underlying175 underlying184 underlying209 underlying216 underlying217 underlying234 underlying241 underlying252 underlying256 underlying257 underlying287 underlying295 underlying299 underlying301 underlying323 Fv Fw Fx Fy Fz FB FC FD FE FH FI FJ FK FL FM FN FO FP FQ FR FT FU FV FW FX FY FZ F3 F4 F5 F6 F7 F8 F9 Ga Gb Gc Gd Gf Gg Gh Gi Gj Gl Gm Gn Gp Gq zx Gr Gs Gt Gu Gv Gw Gx Gy Gz GA GD GH GI GJ GK GL GN GQ GR GU GV GX GY GZ G5 G6 G7 G8 G9 He Hf Hg Hl Ho Hq Hr Ht Hu Hw Hy Hz HV HY HZ H6 H7 H8 H9 Ia Ib Ic Ie zy Ig Ih Ii Ij Ik Il Im zA Io Ip Iq Ir Iu Iw Iy Iz IA IB IC IE IG II IJ IK IL IQ IU IV IW IX IY IZ I4 I5 I6 I7 I8 zB I9 Ja Jb Jc Jd Je Jf zC Jg Jh Ji Jj Jk Jl Jm Jo Jp Jq Jr Js Jt Ju Jv Jw Jy Jz zD JA JB JC JD XM XO
def ax (f:FuncId) (fn:Func) (res:List iE) (nt:Nat) (x:SC (aB fn):=by exact SC.mk') (h:aA prog f x.1 res nt:=by exact SC.aC _):oW prog:=⟨f,⟨x.1,res,nt⟩,h⟩
def s5:SC (aB f5):=SC.mk'
theorem ok5:aA prog 5 s5.1 [.tmp 2] 63:=SC.aC s5
def s13:SC (aB f13):=SC.mk'
theorem asr:aA prog 13 s13.1 [.cell 6 true 11,.cell 7 true 63,.tmp 8,.tmp 9] 76:=SC.aC s13
def q14:=ax 14 f14 [.tmp 0] 74
def q24:=ax 24 f24 [.cell 6 true 8] 11
def s34:SC (aB f34):=SC.mk'
theorem aso:aA prog 34 s34.1 [.cell 2 true 11,.cell 3 true 63,.tmp 4,.tmp 5] 9:=SC.aC s34
def s35:SC (aB f35):=SC.mk'
theorem arx:aA prog 35 s35.1 [.tmp 2] 24:=SC.aC s35
def q36:=ax 36 f36 [.cell 4 true 63,.tmp 5,.tmp 6] 57
def q39:=ax 39 f39 [.cell 2 true 63,.tmp 3] 19
def q40:=ax 40 f40 [.cell 6 true 11,.cell 7 true 63,.tmp 8,.tmp 9] 93
def q41:=ax 41 f41 [.cell 8 true 23] 60
def q42:=ax 42 f42 [.cell 8 true 11,.tmp 9,.tmp 10,.tmp 11] 65
def zF:=ax 56 f56 [.cell 4 true 26,.tmp 5] 28
def zG:=ax 57 f57 [.cell 8 true 11,.cell 9 true 26,.tmp 10] 34
def zI:=ax 59 f59 [.cell 4 true 26,.tmp 5] 74
def XP:=ax 62 f62 [.cell 2 true 23,.tmp 3,.tmp 4] 53
def zJ:=ax 64 f64 [.tmp 4,.tmp 5] 19
def zK:=ax 65 f65 [.cell 6 true 63] 41
def s71:SC (aB f71):=SC.mk'
theorem asl:aA prog 71 s71.1 [.tmp 2] 12:=SC.aC s71
def zL:=ax 74 f74 [.cell 2 true 6] 8
def KL:=ax 75 f75 [.tmp 4] 16
def q76:=ax 76 f76 [.cell 2 true 10] 56
def q77:=ax 77 f77 [.cell 2 true 8,.tmp 3] 57
def q78:=ax 78 f78 [.cell 4 true 63] 37
def zN:=ax 96 f96 [.cell 2 true 5,.tmp 3] 46
def zO:=ax 97 f97 [.cell 0 true 4] 2
def zP:=ax 98 f98 [.tmp 2] 38
def zQ:=ax 104 f104 [.tmp 4] 9
def zR:=ax 105 f105 [.cell 2 true 26,.tmp 3] 15
def XQ:=ax 106 f106 [.tmp 2] 61
def zS:=ax 109 f109 [.tmp 2] 9
def zT:=ax 110 f110 [.tmp 2] 17
def zU:=ax 111 f111 [.tmp 6] 15
def zV:=ax 129 f129 [.tmp 2] 12
def zW:=ax 130 f130 [.tmp 6] 15
def arf:=ax 131 f131 [.cell 8 true 8,.tmp 9] 41
def zX:=ax 144 f144 [.tmp 2] 67
def zY:=ax 145 f145 [.tmp 2] 148
def zZ:=ax 146 f146 [.tmp 2] 98
def z8:=ax 147 f147 [.tmp 2] 35
def Aa:=ax 148 f148 [.tmp 2] 168
def Ab:=ax 150 f150 [.tmp 2] 169
def Ac:=ax 154 f154 [.cell 2 true 8] 20
def Ad:=ax 156 f156 [.tmp 4] 19
def Ae:=ax 157 f157 [.cell 2 true 26,.tmp 3] 21
def Af:=ax 165 f165 [.tmp 2] 80
def Ag:=ax 166 f166 [.tmp 2] 11
def Ah:=ax 170 f170 [.tmp 4] 13
def XR:=ax 171 f171 [.tmp 2] 5
def Ai:=ax 172 f172 [.tmp 2] 5
def arh:=ax 173 f173 [.tmp 8] 49
def ari:=ax 174 f174 [.cell 4 true 8,.cell 5 true 7,.tmp 6] 29
def Aj:=ax 175 f175 [.tmp 2] 5
def Ak:=ax 187 f187 [.cell 6 true 11,.cell 7 true 5,.tmp 8] 44
def Al:=ax 188 f188 [.tmp 2] 13
def Am:=ax 189 f189 [] 13
def Ao:=ax 190 f190 [.cell 4 true 4,.tmp 5] 21
def Ap:=ax 191 f191 [.tmp 2] 9
def Aq:=ax 192 f192 [.cell 2 true 4,.tmp 3] 26
def Ar:=ax 193 f193 [.cell 8 true 11,.tmp 9] 54
def Au:=ax 196 f196 [.cell 4 true 8,.tmp 5] 17
def Av:=ax 197 f197 [.tmp 2] 9
def Aw:=ax 198 f198 [.cell 6 true 4,.tmp 7] 56
def Ay:=ax 200 f200 [.cell 8 true 11,.tmp 9] 52
def Az:=ax 203 f203 [.cell 8 true 4,.tmp 9] 60
def AA:=ax 209 f209 [.cell 2 true 5,.tmp 3] 10
def AB:=ax 223 f223 [.tmp 2] 62
def AJ:=ax 224 f224 [.tmp 4] 16
def AL:=ax 225 f225 [.tmp 2] 24
def AO:=ax 227 f227 [.tmp 4] 9
def arj:=ax 228 f228 [.cell 4 true 8,.tmp 5] 26
def ark:=ax 229 f229 [.cell 4 true 2,.cell 5 true 7,.tmp 6] 53
def XT:=ax 233 f233 [.tmp 4,.tmp 5] 12
def XU:=ax 234 f234 [.tmp 2] 9
def arl:=ax 235 f235 [.tmp 4,.tmp 5] 21
def AP:=ax 242 f242 [.cell 6 true 11,.cell 7 true 5,.tmp 8] 62
def AQ:=ax 243 f243 [.cell 6 true 11,.cell 7 true 5,.tmp 8] 65
def AR:=ax 244 f244 [.tmp 4] 42
def AU:=ax 245 f245 [.tmp 3] 12
def AX:=ax 246 f246 [.tmp 2] 9
def AY:=ax 247 f247 [.tmp 6] 26
def AZ:=ax 248 f248 [.tmp 4] 14
def A7:=ax 249 f249 [.tmp 2] 5
def A8:=ax 255 f255 [.tmp 6,.tmp 7] 59
def A9:=ax 294 f294 [.tmp 2] 37
def Ba:=ax 295 f295 [.tmp 2] 30
def Bb:=ax 296 f296 [.tmp 4] 19
def arn:=ax 297 f297 [.tmp 4] 11
def XV:=ax 299 f299 [.tmp 6,.tmp 7] 49
def aro:=ax 300 f300 [.tmp 4] 10
def arp:=ax 301 f301 [.tmp 4] 20
def XW:=ax 302 f302 [.tmp 4] 8
def arq:=ax 303 f303 [.tmp 4] 34
def XY:=ax 304 f304 [.tmp 2] 21
def Bc:=ax 311 f311 [.cell 6 true 11,.tmp 7,.tmp 8] 32
def Bd:=ax 312 f312 [.cell 6 true 11,.tmp 7] 33
def Be:=ax 313 f313 [.tmp 4] 19
def Bf:=ax 362 f362 [.tmp 4] 9
def XZ:=ax 363 f363 [.tmp 2] 6
def X0:=ax 365 f365 [.tmp 4] 9
def ars:=ax 366 f366 [.tmp 6] 33
def aru:=ax 368 f368 [.tmp 2] 6
def Bg:=ax 369 f369 [.tmp 4] 19
def X3:=ax 370 f370 [.tmp 3] 8
def Bh:=ax 376 f376 [.tmp 4,.tmp 5] 31
def Bj:=ax 377 f377 [.cell 6 true 11] 27
def X4:=ax 407 f407 [.tmp 4] 19
end
end Go.Eng
