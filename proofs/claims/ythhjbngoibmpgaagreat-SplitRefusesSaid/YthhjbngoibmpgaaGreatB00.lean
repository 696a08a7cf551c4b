/-
  Part of a proof: lemmas and definitions of this work.
  No condition.
-/
import Derived.Test.YthhjbngoibmpgaaGreatA06
import Derived.Test.YthhjbngoibmpgaaGreatA50
set_option linter.all false
set_option maxRecDepth 100000
set_option maxHeartbeats 8000000
namespace Go.Eng
open Go Go.Proofs Go.Proofs.Tryz
noncomputable section
theorem D6:bF Tryz.prog 156=some 1:=by kernel_rfl
theorem ao8:bF Tryz.prog 332=some 1:=by kernel_rfl
theorem D7:dh Tryz.prog 156=some false:=by kernel_rfl
theorem ao9:dh Tryz.prog 332=some false:=by kernel_rfl
theorem D8:dm Tryz.prog 4=some [(.bool false)]:=by kernel_rfl
theorem D9:dm Tryz.prog 158=some [(.slice none 0 0),(.slice none 0 0),(.int .i64 0),(.int .i64 0),(.slice none 0 0),(.int .i64 0),(.slice none 0 0),(.slice none 0 0),(.int .i64 0),(.int .i64 0),(.int .i64 0),(.int .i64 0),(.int .i64 0),(.slice none 0 0),(.int .i64 0),(.int .i64 0),(.int .i64 0),(.int .i64 0),(.int .i64 0),(.int .i64 0),(.int .i64 0),(.int .i64 0),(.slice none 0 0),(.int .i64 0),(.slice none 0 0),(.slice none 0 0),(.int .i64 0),(.slice none 0 0),(.slice none 0 0),(.slice none 0 0),(.int .i64 0),(.slice none 0 0),(.slice none 0 0),(.slice none 0 0),(.slice none 0 0),(.int .i64 0),(.slice none 0 0),(.int .i64 0),(.int .i64 0)]:=by kernel_rfl
theorem Xw:dm Tryz.prog 220=some [(.bool false),(.int .i64 0),(.int .i64 0),(.slice none 0 0),(.int .i64 0),(.int .i64 0),(.slice none 0 0),(.slice none 0 0),(.bool false),(.int .i64 0),(.int .i64 0),(.slice none 0 0),(.int .i64 0),(.int .i64 0),(.slice none 0 0),(.slice none 0 0)]:=by kernel_rfl
theorem Ea:dm Tryz.prog 327=some [(.int .i64 0),(.int .i64 0),(.int .i64 0),(.int .i64 0)]:=by kernel_rfl
theorem apa:dm Tryz.prog 332=some [.nilFunc]:=by kernel_rfl
theorem Eb:vH Tryz.prog 159=some .nilFunc:=by kernel_rfl
attribute [local go_sem] aB f5 f17 f25 f26 f29 f30 f33 f34 f41 f42 f49 f50 f64 f69 f71 f72 f73 f76 f77 f78 f79 f82 f107 f124 f125 f126 f127 f128 f129 f130 f131 f132 f133 f134 f135 f138 f139 f140 f168 f169 f196 f197 f198 f199 f200 f201 f202 f203 f204 f205 f206 f207 f208 f209 f212 f213 f214 f216 f217 f218 f219 f220 f221 f222 f250 f251 f252 f258 f284 f285 f286 f287 f288 f289 f290 f291 f292 f294 f296 f298 f300 f301 f302 f303 f304 f305 f306 f330 f333 f339 f344 f358 f359 f360 f363 f365 f368 f400 f405 f406 f412 f413 f428 f445 gV lC mJ strip rU qG Option.bind List.filterMap reduceIte Bool.false_eq_true Bool.and_true Bool.and_self Bool.true_and and_self and_true true_and List.all List.map List.isEmpty Option.isSome ne_eq not_false_eq_true not_true_eq_false reduceCtorEq String.reduceEq String.reduceNe List.length_cons List.length_nil Nat.reduceAdd Nat.reduceMul Nat.reduceLT Nat.reduceLeDiff Nat.zero_add Value.oneCell' Nat.reduceEqDiff Option.getD List.getElem?_toArray List.getElem?_cons_zero List.getElem?_cons_succ List.size_toArray if_true if_false List.any Array.size decide_true decide_false underlying3 underlying4 underlying5 underlying9 underlying22 underlying26 underlying27 underlying28 underlying29 underlying31 underlying33 underlying34 underlying36 underlying38 underlying39 underlying40 underlying41 underlying43 underlying50 underlying52 underlying53 underlying54 underlying56 underlying58 underlying59 underlying77 underlying80 underlying81 underlying82 underlying84 underlying86 underlying88 underlying90 underlying91 underlying93 underlying94 underlying96 underlying98 underlying100 underlying111 underlying123 underlying125 underlying127 underlying149 underlying158 underlying175 underlying177 underlying194 underlying196 underlying201 underlying214 underlying220 underlying233 underlying239 underlying253 underlying256 underlying293 underlying327 underlying352 underlying367 IV IW IX IY IZ I4 I5 I6 I7 I8 I9 Ja Jb Jc Jd Je Jf Jg Jh Ji Jj Jk Jl Jm Jo Jp Jq Jr Js Jt Ju Jv Jw Jy Jz JA JB JC JD JE JF JG D6 JH JI JJ JK JL JM JN JO JP ao8 JQ JR JS JU JV JW JX JY JZ J2 J3 J4 J5 J6 J7 J8 J9 Ka Kb Kc Ke Kg Kh Ki Kj Kk Kl Km Kn Ko Kq Kr Kt Ku Kv Kw Ky Kz KA KC D7 KD KE KF KG KH KI KJ KL KM ao9 KN D8 KO KP KQ KR KS KT KU KV KW KX KY KZ K3 K4 K5 K6 K7 K8 K9 La Lb Lc Ld Le Lf D9 Lg Lh Li Xw Lj Ll Lm Lp Ea apa Lr Ls Lu Lv Lx LA LB LC LD LF LG LH LJ LK LM LP LQ LU Eb LV LW LX LY
def ax (f:FuncId) (fn:Func) (res:List iJ) (nt:Nat) (x:SC (aB fn):=by exact SC.mk') (h:aA prog f x.1 res nt:=by exact SC.aC _):rG prog:=⟨f,⟨x.1,res,nt⟩,h⟩
def s5:SC (aB f5):=SC.mk'
theorem ok5:aA prog 5 s5.1 [.tmp 2] 59:=SC.aC s5
def Ec:=ax 17 f17 [.cell 4 true 26,.tmp 5] 28
def Ed:=ax 25 f25 [.cell 4 true 26,.tmp 5] 74
def Ee:=ax 26 f26 [.cell 8 true 11,.cell 9 true 26,.tmp 10] 34
def Xx:SC (aB f29):=SC.mk'
theorem adL:aA prog 29 Xx.1 [.cell 6 true 11,.cell 7 true 63,.tmp 8,.tmp 9] 129:=SC.aC Xx
def q30:=ax 30 f30 [.tmp 0] 68
def Xy:=ax 33 f33 [.cell 2 true 23,.tmp 3,.tmp 4] 53
def q34:=ax 34 f34 [.cell 8 true 11,.tmp 9,.tmp 10,.tmp 11] 65
def Ef:=ax 41 f41 [.cell 6 true 8] 11
def Eg:=ax 42 f42 [.cell 4 true 11] 34
def Eh:=ax 49 f49 [.cell 2 true 5,.tmp 3] 46
def Ei:=ax 50 f50 [.cell 0 true 4] 2
def Ej:=ax 64 f64 [.tmp 6] 15
def q69:=ax 69 f69 [.cell 6 true 8,.tmp 7] 28
def Em:=ax 71 f71 [.tmp 4] 9
def En:=ax 72 f72 [.cell 2 true 26,.tmp 3] 15
def Eo:=ax 73 f73 [.tmp 2] 38
def Xz:SC (aB f76):=SC.mk'
theorem apf:aA prog 76 Xz.1 [.cell 2 true 11,.cell 3 true 63,.tmp 4,.tmp 5] 9:=SC.aC Xz
def Oc:SC (aB f77):=SC.mk'
theorem XA:aA prog 77 Oc.1 [.tmp 2] 11:=SC.aC Oc
def q78:=ax 78 f78 [.cell 2 true 6,.tmp 3] 82
def q79:=ax 79 f79 [.cell 4 true 63] 24
def XB:=ax 82 f82 [.tmp 2] 61
def Ep:=ax 107 f107 [.cell 6 true 63] 41
def XC:=ax 124 f124 [.tmp 2] 55
def XD:=ax 125 f125 [.tmp 4] 8
def Er:=ax 126 f126 [.tmp 4] 16
def Es:=ax 127 f127 [.tmp 4] 19
def Et:=ax 128 f128 [.cell 2 true 26,.tmp 3] 21
def Eu:=ax 129 f129 [.tmp 2] 67
def Ew:=ax 130 f130 [.tmp 2] 148
def Ey:=ax 131 f131 [.tmp 2] 98
def Ez:=ax 132 f132 [.tmp 2] 35
def EA:=ax 133 f133 [.tmp 2] 168
def XE:=ax 134 f134 [.tmp 2] 100
def EB:=ax 135 f135 [.tmp 2] 169
def apj:=ax 138 f138 [.tmp 2,.tmp 3] 11
def apk:=ax 139 f139 [.cell 4 true 8,.cell 5 true 8,.tmp 6] 55
def apl:=ax 140 f140 [.tmp 2] 24
def EC:=ax 168 f168 [.tmp 2] 9
def ED:=ax 169 f169 [.tmp 2] 17
def XF:=ax 196 f196 [.tmp 2] 34
def XG:=ax 197 f197 [.tmp 4] 9
def XH:=ax 198 f198 [.tmp 3] 13
def XI:=ax 199 f199 [.tmp 2] 61
def XJ:=ax 200 f200 [.tmp 4] 19
def XK:=ax 201 f201 [.tmp 3] 8
def EF:=ax 202 f202 [.cell 2 true 5,.tmp 3] 10
def EG:=ax 203 f203 [.cell 6 true 11,.cell 7 true 5,.tmp 8] 44
def EH:=ax 204 f204 [.tmp 2] 13
def EI:=ax 205 f205 [] 13
def EJ:=ax 206 f206 [.cell 4 true 4,.tmp 5] 21
def EK:=ax 207 f207 [.tmp 2] 9
def EL:=ax 208 f208 [.cell 2 true 4,.tmp 3] 26
def EM:=ax 209 f209 [.cell 8 true 11,.tmp 9] 54
def EN:=ax 212 f212 [.cell 4 true 8,.tmp 5] 17
def EO:=ax 213 f213 [.tmp 2] 9
def EP:=ax 214 f214 [.cell 6 true 4,.tmp 7] 56
def EQ:=ax 216 f216 [.cell 8 true 11,.tmp 9] 52
def XL:=ax 217 f217 [.cell 2 true 3] 5
def XM:=ax 218 f218 [.cell 4 true 3,.tmp 5] 69
def XO:=ax 219 f219 [.cell 6 true 11,.tmp 7,.tmp 8] 33
def ER:=ax 220 f220 [.cell 8 true 4,.tmp 9] 60
def ES:=ax 221 f221 [.tmp 2] 12
def apm:=ax 222 f222 [.cell 6 true 8,.tmp 7] 41
def ET:=ax 250 f250 [.tmp 4] 13
def EU:=ax 251 f251 [.tmp 2] 5
def EW:=ax 252 f252 [.cell 2 true 8] 20
def EX:=ax 258 f258 [.tmp 2] 5
def EY:=ax 284 f284 [.cell 6 true 11,.cell 7 true 5,.tmp 8] 62
def EZ:=ax 285 f285 [.cell 6 true 11,.cell 7 true 5,.tmp 8] 65
def E5:=ax 286 f286 [.tmp 4] 42
def E8:=ax 287 f287 [.tmp 3] 12
def E9:=ax 288 f288 [.tmp 2] 9
def Fa:=ax 289 f289 [.tmp 6] 26
def Fb:=ax 290 f290 [.tmp 4] 14
def Fe:=ax 291 f291 [.tmp 4,.tmp 5] 19
def Ff:=ax 292 f292 [.tmp 2] 5
def Fg:=ax 294 f294 [.tmp 2] 80
def XP:=ax 296 f296 [.tmp 3] 13
def apn:=ax 298 f298 [.cell 4 true 3,.tmp 5] 80
def Fh:=ax 300 f300 [.tmp 6,.tmp 7] 59
def apo:=ax 301 f301 [.tmp 4] 10
def Fj:=ax 302 f302 [.tmp 6] 15
def XQ:=ax 303 f303 [.cell 6 true 8,.tmp 7] 57
def apq:=ax 304 f304 [.tmp 4] 42
def apr:=ax 305 f305 [.tmp 3] 8
def aps:=ax 306 f306 [.tmp 4] 42
def Fp:=ax 330 f330 [.tmp 2] 11
def Fq:=ax 333 f333 [.tmp 2] 24
def Fs:=ax 339 f339 [.tmp 4] 9
def Fu:=ax 344 f344 [.tmp 2] 62
def Fv:=ax 358 f358 [.cell 6 true 11,.tmp 7,.tmp 8] 32
def Fw:=ax 359 f359 [.cell 6 true 11,.tmp 7] 33
def Fx:=ax 360 f360 [.tmp 4] 19
def apt:=ax 363 f363 [.tmp 6] 95
def Fy:=ax 365 f365 [.tmp 4] 9
def apu:=ax 368 f368 [.tmp 4] 19
def Fz:=ax 400 f400 [.tmp 4] 19
def FB:=ax 405 f405 [.tmp 2] 37
def FC:=ax 406 f406 [.tmp 2] 30
def FD:=ax 412 f412 [.tmp 4,.tmp 5] 31
def FE:=ax 413 f413 [.cell 6 true 11] 27
def FH:=ax 428 f428 [.tmp 4] 9
def FI:=ax 445 f445 [.tmp 4] 19
end
end Go.Eng
