/-
  Part of a proof: lemmas and definitions of this work.
  No condition.
-/
import Derived.Test.YtmfankbjapjjiaaGreatA06
import Derived.Test.YtmfankbjapjjiaaGreatA50
set_option linter.all false
set_option maxRecDepth 100000
set_option maxHeartbeats 8000000
namespace Go.Eng
open Go Go.Proofs Go.Proofs.Tryz
noncomputable section
theorem zx:bG Tryz.prog 182=some 1:=by kernel_rfl
theorem zy:dm Tryz.prog 182=some false:=by kernel_rfl
theorem zA:cZ Tryz.prog 4=some [(.bool false)]:=by kernel_rfl
theorem zB:cZ Tryz.prog 184=some [(.slice none 0 0),(.slice none 0 0),(.int .i64 0),(.int .i64 0),(.slice none 0 0),(.int .i64 0),(.slice none 0 0),(.slice none 0 0),(.int .i64 0),(.int .i64 0),(.int .i64 0),(.int .i64 0),(.int .i64 0),(.slice none 0 0),(.int .i64 0),(.int .i64 0),(.int .i64 0),(.int .i64 0),(.int .i64 0),(.int .i64 0),(.int .i64 0),(.int .i64 0),(.slice none 0 0),(.int .i64 0),(.slice none 0 0),(.slice none 0 0),(.int .i64 0),(.slice none 0 0),(.slice none 0 0),(.slice none 0 0),(.int .i64 0),(.slice none 0 0),(.slice none 0 0),(.slice none 0 0),(.slice none 0 0),(.int .i64 0),(.slice none 0 0),(.int .i64 0),(.int .i64 0)]:=by kernel_rfl
theorem XA:cZ Tryz.prog 255=some [(.int .i64 0),(.int .i64 0),(.int .i64 0)]:=by kernel_rfl
theorem zC:cZ Tryz.prog 323=some [(.int .i64 0),(.int .i64 0),(.int .i64 0),(.int .i64 0)]:=by kernel_rfl
theorem zD:tV Tryz.prog 185=some .nilFunc:=by kernel_rfl
attribute [local go_sem] aB f3 f9 f10 f21 f22 f23 f24 f25 f26 f37 f55 f56 f57 f58 f59 f60 f64 f65 f73 f74 f95 f96 f97 f98 f99 f100 f101 f102 f103 f104 f105 f109 f110 f111 f117 f120 f125 f126 f127 f128 f129 f130 f141 f142 f144 f145 f146 f147 f148 f150 f153 f154 f155 f156 f157 f165 f166 f170 f172 f175 f176 f187 f188 f189 f190 f191 f192 f193 f195 f196 f197 f198 f199 f200 f203 f208 f209 f223 f224 f225 f227 f242 f243 f244 f245 f246 f247 f248 f249 f255 f258 f294 f295 f296 f311 f312 f313 f362 f369 f376 f377 fM kQ lU strip qD pF Option.bind List.filterMap reduceIte Bool.false_eq_true Bool.and_true Bool.and_self Bool.true_and and_self and_true true_and List.all List.map List.isEmpty Option.isSome ne_eq not_false_eq_true not_true_eq_false reduceCtorEq String.reduceEq String.reduceNe List.length_cons List.length_nil Nat.reduceAdd Nat.reduceMul Nat.reduceLT Nat.reduceLeDiff Nat.zero_add Value.oneCell' Nat.reduceEqDiff Option.getD List.getElem?_toArray List.getElem?_cons_zero List.getElem?_cons_succ List.size_toArray if_true if_false List.any Array.size decide_true decide_false underlying3 underlying4 underlying5 underlying9 underlying22 underlying26 underlying27 underlying28 underlying29 underlying31 underlying33 underlying34 underlying36 underlying38 underlying39 underlying40 underlying41 underlying43 underlying45 underlying46 underlying48 underlying49 underlying51 underlying53 underlying54 underlying55 underlying57 underlying59 underlying61 underlying63 underlying65 underlying66 underlying72 underlying76 underlying85 underlying89 underlying90 underlying92 underlying94 underlying96 underlying97 underlying98 underlying100 underlying102 underlying104 underlying116 underlying118 underlying151 underlying164 underlying175 underlying184 underlying209 underlying216 underlying217 underlying234 underlying241 underlying252 underlying255 underlying256 underlying257 underlying287 underlying295 underlying299 underlying301 underlying323 Fv Fw Fx Fy Fz FB FC FD FE FH FI FJ FK FL FM FN FO FP FQ FR FT FU FV FW FX FY FZ F3 F4 F5 F6 F7 F8 F9 Ga Gb Gc Gd Gf Gg Gh Gi Gj Gl Gm Gn Gp Gq zx Gr Gs Gt Gu Gv Gw Gx Gy Gz GA GD GH GI GJ GK GL GN GQ GR GU GV GX GY GZ G5 G6 G7 G8 G9 He Hf Hg Hl Ho Hq Hr Ht Hu Hw Hy Hz HV HY HZ H6 H7 H8 H9 Ia Ib Ic Ie zy Ig Ih Ii Ij Ik Il Im zA Io Ip Iq Ir Iu Iw Iy Iz IA IB IC IE IG II IJ IK IL IQ IU IV IW IX IY IZ I4 I5 I6 I7 I8 zB I9 Ja Jb XA Jc Jd Je Jf zC Jg Jh Ji Jj Jk Jl Jm Jo Jp Jq Jr Js Jt Ju Jv Jw Jy Jz zD JA JB JC JD
def ax (f:FuncId) (fn:Func) (res:List iE) (nt:Nat) (x:SC (aB fn):=by exact SC.mk') (h:aA prog f x.1 res nt:=by exact SC.aC _):oW prog:=⟨f,⟨x.1,res,nt⟩,h⟩
def s3:SC (aB f3):=SC.mk'
theorem ok3:aA prog 3 s3.1 [.tmp 2] 59:=SC.aC s3
def s9:SC (aB f9):=SC.mk'
theorem ok9:aA prog 9 s9.1 [.cell 6 true 11,.cell 7 true 63,.tmp 8,.tmp 9] 44:=SC.aC s9
def q10:=ax 10 f10 [.tmp 0] 85
def s21:SC (aB f21):=SC.mk'
theorem apO:aA prog 21 s21.1 [.tmp 2] 11:=SC.aC s21
def q22:=ax 22 f22 [.cell 4 true 63,.tmp 5] 41
def q23:=ax 23 f23 [.cell 6 true 11,.cell 7 true 63,.tmp 8,.tmp 9] 73
def q24:=ax 24 f24 [.cell 6 true 8] 11
def Ky:=ax 25 f25 [.cell 4 true 11] 34
def q26:=ax 26 f26 [.cell 8 true 11,.tmp 9,.tmp 10,.tmp 11] 65
def Kz:=ax 37 f37 [.cell 2 true 3] 5
def XB:=ax 55 f55 [.tmp 4] 34
def zF:=ax 56 f56 [.cell 4 true 26,.tmp 5] 28
def zG:=ax 57 f57 [.cell 8 true 11,.cell 9 true 26,.tmp 10] 34
def q58:=ax 58 f58 [.cell 2 true 6,.tmp 3,.tmp 4] 120
def zI:=ax 59 f59 [.cell 4 true 26,.tmp 5] 74
def q60:=ax 60 f60 [.cell 4 true 63] 32
def zJ:=ax 64 f64 [.tmp 4,.tmp 5] 19
def zK:=ax 65 f65 [.cell 6 true 63] 41
def KA:=ax 73 f73 [.tmp 2] 55
def zL:=ax 74 f74 [.cell 2 true 6] 8
def KC:=ax 95 f95 [.tmp 4] 8
def zN:=ax 96 f96 [.cell 2 true 5,.tmp 3] 46
def zO:=ax 97 f97 [.cell 0 true 4] 2
def zP:=ax 98 f98 [.tmp 2] 38
def q99:=ax 99 f99 [.tmp 2] 20
def apH:=ax 100 f100 [.cell 6 true 2,.tmp 7,.tmp 8] 57
def apI:=ax 101 f101 [.cell 2 true 7] 5
def apJ:=ax 102 f102 [.cell 6 true 7] 14
def apK:=ax 103 f103 [.cell 4 true 8,.tmp 5] 47
def zQ:=ax 104 f104 [.tmp 4] 9
def zR:=ax 105 f105 [.cell 2 true 26,.tmp 3] 15
def zS:=ax 109 f109 [.tmp 2] 9
def zT:=ax 110 f110 [.tmp 2] 17
def zU:=ax 111 f111 [.tmp 6] 15
def XC:=ax 117 f117 [.tmp 2] 8
def XD:=ax 120 f120 [.tmp 6] 45
def KD:=ax 125 f125 [.tmp 2] 34
def KE:=ax 126 f126 [.tmp 4] 9
def KF:=ax 127 f127 [.tmp 3] 13
def KG:=ax 128 f128 [.tmp 2] 61
def zV:=ax 129 f129 [.tmp 2] 12
def zW:=ax 130 f130 [.tmp 6] 15
def KH:=ax 141 f141 [.tmp 4] 19
def KI:=ax 142 f142 [.tmp 3] 8
def zX:=ax 144 f144 [.tmp 2] 67
def zY:=ax 145 f145 [.tmp 2] 148
def zZ:=ax 146 f146 [.tmp 2] 98
def z8:=ax 147 f147 [.tmp 2] 35
def Aa:=ax 148 f148 [.tmp 2] 168
def Ab:=ax 150 f150 [.tmp 2] 169
def XE:=ax 153 f153 [.tmp 2] 10
def Ac:=ax 154 f154 [.cell 2 true 8] 20
def XF:=ax 155 f155 [.cell 4 true 8,.tmp 5] 50
def Ad:=ax 156 f156 [.tmp 4] 19
def Ae:=ax 157 f157 [.cell 2 true 26,.tmp 3] 21
def Af:=ax 165 f165 [.tmp 2] 80
def Ag:=ax 166 f166 [.tmp 2] 11
def Ah:=ax 170 f170 [.tmp 4] 13
def Ai:=ax 172 f172 [.tmp 2] 5
def Aj:=ax 175 f175 [.tmp 2] 5
def KJ:=ax 176 f176 [.tmp 4] 9
def Ak:=ax 187 f187 [.cell 6 true 11,.cell 7 true 5,.tmp 8] 44
def Al:=ax 188 f188 [.tmp 2] 13
def Am:=ax 189 f189 [] 13
def Ao:=ax 190 f190 [.cell 4 true 4,.tmp 5] 21
def Ap:=ax 191 f191 [.tmp 2] 9
def Aq:=ax 192 f192 [.cell 2 true 4,.tmp 3] 26
def Ar:=ax 193 f193 [.cell 8 true 11,.tmp 9] 54
def apL:=ax 195 f195 [.cell 2 true 2] 6
def Au:=ax 196 f196 [.cell 4 true 8,.tmp 5] 17
def Av:=ax 197 f197 [.tmp 2] 9
def Aw:=ax 198 f198 [.cell 6 true 4,.tmp 7] 56
def apM:=ax 199 f199 [.cell 6 true 11,.tmp 7] 39
def Ay:=ax 200 f200 [.cell 8 true 11,.tmp 9] 52
def Az:=ax 203 f203 [.cell 8 true 4,.tmp 9] 60
def XG:=ax 208 f208 [.tmp 4] 9
def AA:=ax 209 f209 [.cell 2 true 5,.tmp 3] 10
def AB:=ax 223 f223 [.tmp 2] 62
def AJ:=ax 224 f224 [.tmp 4] 16
def AL:=ax 225 f225 [.tmp 2] 24
def AO:=ax 227 f227 [.tmp 4] 9
def AP:=ax 242 f242 [.cell 6 true 11,.cell 7 true 5,.tmp 8] 62
def AQ:=ax 243 f243 [.cell 6 true 11,.cell 7 true 5,.tmp 8] 65
def AR:=ax 244 f244 [.tmp 4] 42
def AU:=ax 245 f245 [.tmp 3] 12
def AX:=ax 246 f246 [.tmp 2] 9
def AY:=ax 247 f247 [.tmp 6] 26
def AZ:=ax 248 f248 [.tmp 4] 14
def A7:=ax 249 f249 [.tmp 2] 5
def A8:=ax 255 f255 [.tmp 6,.tmp 7] 59
def XH:=ax 258 f258 [.tmp 4] 9
def A9:=ax 294 f294 [.tmp 2] 37
def Ba:=ax 295 f295 [.tmp 2] 30
def Bb:=ax 296 f296 [.tmp 4] 19
def Bc:=ax 311 f311 [.cell 6 true 11,.tmp 7,.tmp 8] 32
def Bd:=ax 312 f312 [.cell 6 true 11,.tmp 7] 33
def Be:=ax 313 f313 [.tmp 4] 19
def Bf:=ax 362 f362 [.tmp 4] 9
def Bg:=ax 369 f369 [.tmp 4] 19
def Bh:=ax 376 f376 [.tmp 4,.tmp 5] 31
def Bj:=ax 377 f377 [.cell 6 true 11] 27
end
end Go.Eng
