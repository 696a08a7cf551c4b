/-
  Part of a proof: lemmas and definitions of this work.
  No condition.
-/
import Derived.Test.YthhjbngoibmpgaaGreatA06
import Derived.Test.YthhjbngoibmpgaaGreatA50
set_option linter.all false
set_option maxRecDepth 100000
set_option maxHeartbeats 8000000
namespace Go.Eng
open Go Go.Proofs Go.Proofs.Tryz
noncomputable section
theorem D6:bF Tryz.prog 156=some 1:=by kernel_rfl
theorem apX:bF Tryz.prog 189=some 10:=by kernel_rfl
theorem D7:dh Tryz.prog 156=some false:=by kernel_rfl
theorem apY:dh Tryz.prog 189=some true:=by kernel_rfl
theorem D8:dm Tryz.prog 4=some [(.bool false)]:=by kernel_rfl
theorem D9:dm Tryz.prog 158=some [(.slice none 0 0),(.slice none 0 0),(.int .i64 0),(.int .i64 0),(.slice none 0 0),(.int .i64 0),(.slice none 0 0),(.slice none 0 0),(.int .i64 0),(.int .i64 0),(.int .i64 0),(.int .i64 0),(.int .i64 0),(.slice none 0 0),(.int .i64 0),(.int .i64 0),(.int .i64 0),(.int .i64 0),(.int .i64 0),(.int .i64 0),(.int .i64 0),(.int .i64 0),(.slice none 0 0),(.int .i64 0),(.slice none 0 0),(.slice none 0 0),(.int .i64 0),(.slice none 0 0),(.slice none 0 0),(.slice none 0 0),(.int .i64 0),(.slice none 0 0),(.slice none 0 0),(.slice none 0 0),(.slice none 0 0),(.int .i64 0),(.slice none 0 0),(.int .i64 0),(.int .i64 0)]:=by kernel_rfl
theorem apZ:dm Tryz.prog 189=some [(.slice none 0 0),(.int .i64 0),(.slice none 0 0),(.slice none 0 0),(.slice none 0 0),(.slice none 0 0),(.slice none 0 0),(.int .i64 0),(.int .i64 0),(.int .i64 0)]:=by kernel_rfl
theorem Ea:dm Tryz.prog 327=some [(.int .i64 0),(.int .i64 0),(.int .i64 0),(.int .i64 0)]:=by kernel_rfl
theorem Eb:vH Tryz.prog 159=some .nilFunc:=by kernel_rfl
theorem ap0:Tryz.prog.stoodInHeld 253=false:=by kernel_rfl
theorem ap1:Tryz.prog.eqGuardType Tryz.prog.depth 253=false:=by kernel_rfl
attribute [local go_sem] aB f10 f17 f23 f25 f26 f41 f42 f45 f46 f49 f50 f64 f71 f72 f73 f104 f105 f106 f107 f109 f126 f127 f128 f129 f130 f131 f132 f133 f135 f166 f167 f168 f169 f202 f203 f204 f205 f206 f207 f208 f209 f212 f213 f214 f216 f220 f221 f250 f251 f252 f256 f257 f258 f259 f284 f285 f286 f287 f288 f289 f290 f291 f292 f294 f300 f302 f330 f333 f339 f343 f344 f345 f346 f347 f358 f359 f360 f365 f400 f402 f403 f404 f405 f406 f407 f409 f410 f411 f412 f413 f425 f426 f427 f428 f429 f430 f432 f433 f434 f436 f445 f446 f448 f449 f458 gV lC mJ strip rU qG Option.bind List.filterMap reduceIte Bool.false_eq_true Bool.and_true Bool.and_self Bool.true_and and_self and_true true_and List.all List.map List.isEmpty Option.isSome ne_eq not_false_eq_true not_true_eq_false reduceCtorEq String.reduceEq String.reduceNe List.length_cons List.length_nil Nat.reduceAdd Nat.reduceMul Nat.reduceLT Nat.reduceLeDiff Nat.zero_add Value.oneCell' Nat.reduceEqDiff Option.getD List.getElem?_toArray List.getElem?_cons_zero List.getElem?_cons_succ List.size_toArray if_true if_false List.any Array.size decide_true decide_false underlying3 underlying4 underlying5 underlying9 underlying22 underlying26 underlying27 underlying28 underlying29 underlying31 underlying33 underlying34 underlying36 underlying38 underlying39 underlying40 underlying41 underlying43 underlying50 underlying52 underlying53 underlying54 underlying56 underlying58 underlying59 underlying77 underlying80 underlying81 underlying82 underlying84 underlying86 underlying88 underlying90 underlying91 underlying93 underlying94 underlying96 underlying98 underlying100 underlying111 underlying123 underlying125 underlying127 underlying149 underlying158 underlying175 underlying177 underlying189 underlying194 underlying196 underlying201 underlying214 underlying233 underlying239 underlying253 underlying256 underlying293 underlying327 underlying352 underlying367 underlying423 underlying430 underlying432 IV IW IX IY IZ I4 I5 I6 I7 I8 I9 Ja Jb Jc Jd Je Jf Jg Jh Ji Jj Jk Jl Jm Jo Jp Jq Jr Js Jt Ju Jv Jw Jy Jz JA JB JC JD JE JF JG D6 JH JI apX JJ JK JL JM JN JO JP JQ JR JS JU JV JW JX JY JZ J2 J3 J4 J5 J6 J7 J8 J9 Ka Kb Kc Ke Kg Kh Ki Kj Kk Kl Km Kn Ko Kq Kr Kt Ku Kv Kw Ky Kz KA KC D7 KD KE apY KF KG KH KI KJ KL KM KN D8 KO KP KQ KR KS KT KU KV KW KX KY KZ K3 K4 K5 K6 K7 K8 K9 La Lb Lc Ld Le Lf D9 Lg apZ Lh Li Lj Ll Lm Lp Ea Lr Ls Lu Lv Lx LA LB LC LD LF LG LH LJ LK LM LP LQ LU Eb LV LW LX LY ap0 ap1
def ax (f:FuncId) (fn:Func) (res:List iJ) (nt:Nat) (x:SC (aB fn):=by exact SC.mk') (h:aA prog f x.1 res nt:=by exact SC.aC _):rG prog:=⟨f,⟨x.1,res,nt⟩,h⟩
def s10:SC (aB f10):=SC.mk'
theorem ap2:aA prog 10 s10.1 [.tmp 2] 63:=SC.aC s10
def Ec:=ax 17 f17 [.cell 4 true 26,.tmp 5] 28
def q23:=ax 23 f23 [.cell 2 true 6] 8
def Ed:=ax 25 f25 [.cell 4 true 26,.tmp 5] 74
def Ee:=ax 26 f26 [.cell 8 true 11,.cell 9 true 26,.tmp 10] 34
def Ef:=ax 41 f41 [.cell 6 true 8] 11
def Eg:=ax 42 f42 [.cell 4 true 11] 34
def X0:SC (aB f45):=SC.mk'
theorem adO:aA prog 45 X0.1 [.cell 6 true 11,.cell 7 true 63,.tmp 8,.tmp 9] 113:=SC.aC X0
def q46:=ax 46 f46 [.tmp 0] 73
def Eh:=ax 49 f49 [.cell 2 true 5,.tmp 3] 46
def Ei:=ax 50 f50 [.cell 0 true 4] 2
def Ej:=ax 64 f64 [.tmp 6] 15
def Em:=ax 71 f71 [.tmp 4] 9
def En:=ax 72 f72 [.cell 2 true 26,.tmp 3] 15
def Eo:=ax 73 f73 [.tmp 2] 38
def X3:SC (aB f104):=SC.mk'
theorem ap5:aA prog 104 X3.1 [.cell 2 true 11,.cell 3 true 63,.tmp 4,.tmp 5] 9:=SC.aC X3
def Oe:SC (aB f105):=SC.mk'
theorem X4:aA prog 105 Oe.1 [.tmp 2] 17:=SC.aC Oe
def ap6:=ax 106 f106 [.cell 2 true 10] 80
def Ep:=ax 107 f107 [.cell 6 true 63] 41
def ap7:=ax 109 f109 [.cell 8 true 11,.tmp 9,.tmp 10,.tmp 11] 65
def Er:=ax 126 f126 [.tmp 4] 16
def Es:=ax 127 f127 [.tmp 4] 19
def Et:=ax 128 f128 [.cell 2 true 26,.tmp 3] 21
def Eu:=ax 129 f129 [.tmp 2] 67
def Ew:=ax 130 f130 [.tmp 2] 148
def Ey:=ax 131 f131 [.tmp 2] 98
def Ez:=ax 132 f132 [.tmp 2] 35
def EA:=ax 133 f133 [.tmp 2] 168
def EB:=ax 135 f135 [.tmp 2] 169
def ap8:=ax 166 f166 [.cell 8 true 8,.tmp 9,.tmp 10] 69
def ap9:=ax 167 f167 [.cell 4 true 10] 38
def EC:=ax 168 f168 [.tmp 2] 9
def ED:=ax 169 f169 [.tmp 2] 17
def EF:=ax 202 f202 [.cell 2 true 5,.tmp 3] 10
def EG:=ax 203 f203 [.cell 6 true 11,.cell 7 true 5,.tmp 8] 44
def EH:=ax 204 f204 [.tmp 2] 13
def EI:=ax 205 f205 [] 13
def EJ:=ax 206 f206 [.cell 4 true 4,.tmp 5] 21
def EK:=ax 207 f207 [.tmp 2] 9
def EL:=ax 208 f208 [.cell 2 true 4,.tmp 3] 26
def EM:=ax 209 f209 [.cell 8 true 11,.tmp 9] 54
def EN:=ax 212 f212 [.cell 4 true 8,.tmp 5] 17
def EO:=ax 213 f213 [.tmp 2] 9
def EP:=ax 214 f214 [.cell 6 true 4,.tmp 7] 56
def EQ:=ax 216 f216 [.cell 8 true 11,.tmp 9] 52
def ER:=ax 220 f220 [.cell 8 true 4,.tmp 9] 60
def ES:=ax 221 f221 [.tmp 2] 12
def ET:=ax 250 f250 [.tmp 4] 13
def EU:=ax 251 f251 [.tmp 2] 5
def EW:=ax 252 f252 [.cell 2 true 8] 20
def aqa:=ax 256 f256 [.cell 4 true 8,.cell 5 true 7,.tmp 6] 29
def aqb:=ax 257 f257 [.tmp 2] 5
def EX:=ax 258 f258 [.tmp 2] 5
def aqc:=ax 259 f259 [.tmp 6] 16
def EY:=ax 284 f284 [.cell 6 true 11,.cell 7 true 5,.tmp 8] 62
def EZ:=ax 285 f285 [.cell 6 true 11,.cell 7 true 5,.tmp 8] 65
def E5:=ax 286 f286 [.tmp 4] 42
def E8:=ax 287 f287 [.tmp 3] 12
def E9:=ax 288 f288 [.tmp 2] 9
def Fa:=ax 289 f289 [.tmp 6] 26
def Fb:=ax 290 f290 [.tmp 4] 14
def Fe:=ax 291 f291 [.tmp 4,.tmp 5] 19
def Ff:=ax 292 f292 [.tmp 2] 5
def Fg:=ax 294 f294 [.tmp 2] 80
def Fh:=ax 300 f300 [.tmp 6,.tmp 7] 59
def Fj:=ax 302 f302 [.tmp 6] 15
def Fp:=ax 330 f330 [.tmp 2] 11
def Fq:=ax 333 f333 [.tmp 2] 24
def Fs:=ax 339 f339 [.tmp 4] 9
def aqd:=ax 343 f343 [.cell 4 true 2,.cell 5 true 7,.tmp 6] 53
def Fu:=ax 344 f344 [.tmp 2] 62
def aqe:=ax 345 f345 [.tmp 4] 33
def aqf:=ax 346 f346 [.tmp 4] 21
def aqg:=ax 347 f347 [.tmp 4,.tmp 5] 12
def Fv:=ax 358 f358 [.cell 6 true 11,.tmp 7,.tmp 8] 32
def Fw:=ax 359 f359 [.cell 6 true 11,.tmp 7] 33
def Fx:=ax 360 f360 [.tmp 4] 19
def Fy:=ax 365 f365 [.tmp 4] 9
def Fz:=ax 400 f400 [.tmp 4] 19
def aqh:=ax 402 f402 [.tmp 4,.tmp 5] 21
def aqi:=ax 403 f403 [.tmp 4] 11
def aqj:=ax 404 f404 [.tmp 2] 9
def FB:=ax 405 f405 [.tmp 2] 37
def FC:=ax 406 f406 [.tmp 2] 30
def aqk:=ax 407 f407 [] 14
def aql:=ax 409 f409 [.tmp 6,.tmp 7] 49
def aqm:=ax 410 f410 [.tmp 4] 10
def aqn:=ax 411 f411 [.tmp 4] 20
def FD:=ax 412 f412 [.tmp 4,.tmp 5] 31
def FE:=ax 413 f413 [.cell 6 true 11] 27
def aqo:=ax 425 f425 [.tmp 4] 8
def aqp:=ax 426 f426 [.tmp 4] 34
def aqr:=ax 427 f427 [.tmp 6] 33
def FH:=ax 428 f428 [.tmp 4] 9
def aqs:=ax 429 f429 [.tmp 2] 6
def aqt:=ax 430 f430 [.tmp 2] 21
def aqu:=ax 432 f432 [.tmp 4] 9
def aqv:=ax 433 f433 [] 148
def aqw:=ax 434 f434 [.tmp 2] 8
def aqx:=ax 436 f436 [.tmp 2] 6
def FI:=ax 445 f445 [.tmp 4] 19
def aqy:=ax 446 f446 [.tmp 3] 8
def aqz:=ax 448 f448 [.tmp 4] 19
def aqA:=ax 449 f449 [] 53
def aqB:=ax 458 f458 [.tmp 2] 25
end
end Go.Eng
