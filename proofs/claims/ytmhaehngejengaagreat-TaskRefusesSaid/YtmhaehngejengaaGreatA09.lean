/-
  Part of a proof: lemmas and definitions of this work.
  No condition.
-/
import Derived.Test.YtmhaehngejengaaGreatA07
set_option linter.all false
set_option maxRecDepth 100000
set_option maxHeartbeats 8000000
namespace Go.Eng
open Go Go.Proofs
attribute [local go_sem] aB iR mF oq strip uD sK Option.bind List.filterMap reduceIte Bool.false_eq_true Bool.and_true Bool.and_self Bool.true_and and_self and_true true_and List.all List.map List.isEmpty Option.isSome ne_eq not_false_eq_true not_true_eq_false reduceCtorEq String.reduceEq String.reduceNe List.length_cons List.length_nil Nat.reduceAdd Nat.reduceMul Nat.reduceLT Nat.reduceLeDiff Nat.zero_add Value.oneCell' Nat.reduceEqDiff Option.getD List.getElem?_toArray List.getElem?_cons_zero List.getElem?_cons_succ List.size_toArray if_true if_false List.any Array.size decide_true decide_false Tryz.underlying3 Tryz.underlying5 Tryz.underlying9 Tryz.underlying22 Tryz.underlying26 Tryz.underlying27 Tryz.underlying28 Tryz.underlying29 Tryz.underlying31 Tryz.underlying33 Tryz.underlying34 Tryz.underlying36 Tryz.underlying38 Tryz.underlying39 Tryz.underlying40 Tryz.underlying41 Tryz.underlying43 Tryz.underlying45 Tryz.underlying46 Tryz.underlying48 Tryz.underlying49 Tryz.underlying51 Tryz.underlying53 Tryz.underlying54 Tryz.underlying55 Tryz.underlying57 Tryz.underlying59 Tryz.underlying61 Tryz.underlying63 Tryz.underlying65 Tryz.underlying66 Tryz.underlying73 Tryz.underlying77 Tryz.underlying86 Tryz.underlying90 Tryz.underlying91 Tryz.underlying93 Tryz.underlying95 Tryz.underlying97 Tryz.underlying98 Tryz.underlying99 Tryz.underlying101 Tryz.underlying103 Tryz.underlying105 Tryz.underlying122 Tryz.underlying125 Tryz.underlying129 Tryz.underlying131 Tryz.underlying159 Tryz.underlying176 Tryz.underlying180 Tryz.underlying186 Tryz.underlying198 Tryz.underlying200 Tryz.underlying224 Tryz.underlying233 Tryz.underlying278 Tryz.underlying298 Tryz.underlying347 Tryz.underlying369 Tryz.underlying370 Tryz.underlying409 Tryz.underlying410 Ik Il Io Ip Iq Ir Iu Iw Iy Iz IA IB IC IE IG II IJ IK IL IQ IU IV IW IX IY IZ I4 I5 I7 I8 I9 Ja Jb Jc Jd Je Jf Jg Jh Ji Jj Jk Jl Jm Jo Jp Jq Jr Js Jt Ju Jv Jw Jy Jz JA JB JC JD JE JF JG JH JI JJ JK JL JM JO JP JQ JR JS JU JV JW JX JY JZ J3 J4 J5 J6 J7 J8 J9 Ko Kq Kr Kt Ku Kv Kw Ky Kz KA KC KD KE KF KG KH KI KJ KL KN KO KP KQ KR KT KU KW KX KY KZ La Lc Ld Le Lh Lj Ll Lm Lp Lr Ls Lu LC LD LG LH LJ LK LM LP LQ LU LV LW LX LY LZ L6 L8 L9 Mc Md Me MB MC MF MG MH MI MJ MK ML MN MO MP MQ MR MS MV MW MX MZ Na Nb Nc Nh
noncomputable def SE:SC (aB Tryz.f198):=SC.mk' (by simp only [Tryz.f198,go_sem];rfl)
theorem aiJ:aA Tryz.prog 198 SE.1 [.tmp 2] 17:=SC.okA SE Tryz.f198
noncomputable def lY:SC (aB Tryz.f199):=SC.mk' (by simp only [Tryz.f199,go_sem];rfl)
theorem ni:aA Tryz.prog 199 lY.1 [.cell 6 true 11,.cell 7 true 63,.tmp 8,.tmp 9] 138:=SC.okA lY Tryz.f199
noncomputable def SG:SC (aB Tryz.f208):=SC.mk' (by simp only [Tryz.f208,go_sem];rfl)
theorem aiK:aA Tryz.prog 208 SG.1 [.cell 6 true 11,.cell 7 true 5,.tmp 8] 44:=SC.okA SG Tryz.f208
noncomputable def SH:SC (aB Tryz.f244):=SC.mk' (by simp only [Tryz.f244,go_sem];rfl)
theorem aiL:aA Tryz.prog 244 SH.1 [.tmp 4] 24:=SC.okA SH Tryz.f244
noncomputable def SI:SC (aB Tryz.f245):=SC.mk' (by simp only [Tryz.f245,go_sem];rfl)
theorem aiM:aA Tryz.prog 245 SI.1 [.tmp 6] 25:=SC.okA SI Tryz.f245
noncomputable def SK:SC (aB Tryz.f271):=SC.mk' (by simp only [Tryz.f271,go_sem];rfl)
theorem aiN:aA Tryz.prog 271 SK.1 [.tmp 6,.tmp 7] 48:=SC.okA SK Tryz.f271
noncomputable def SL:SC (aB Tryz.f272):=SC.mk' (by simp only [Tryz.f272,go_sem];rfl)
theorem aiO:aA Tryz.prog 272 SL.1 [.tmp 4] 10:=SC.okA SL Tryz.f272
noncomputable def ND:SC (aB Tryz.f273):=SC.mk' (by simp only [Tryz.f273,go_sem];rfl)
theorem aaQ:aA Tryz.prog 273 ND.1 [.tmp 6,.tmp 7] 46:=SC.okA ND Tryz.f273
noncomputable def SN:SC (aB Tryz.f274):=SC.mk' (by simp only [Tryz.f274,go_sem];rfl)
theorem aiP:aA Tryz.prog 274 SN.1 [.tmp 2] 7:=SC.okA SN Tryz.f274
noncomputable def SQ:SC (aB Tryz.f277):=SC.mk' (by simp only [Tryz.f277,go_sem];rfl)
theorem aiQ:aA Tryz.prog 277 SQ.1 [.cell 2 true 11,.cell 3 true 63,.tmp 4,.tmp 5] 9:=SC.okA SQ Tryz.f277
noncomputable def wJ:SC (aB Tryz.f278):=SC.mk' (by simp only [Tryz.f278,go_sem];rfl)
theorem Aa:aA Tryz.prog 278 wJ.1 [.cell 6 true 11,.cell 7 true 63,.tmp 8,.tmp 9] 156:=SC.okA wJ Tryz.f278
noncomputable def yw:SC (aB Tryz.f279):=SC.mk' (by simp only [Tryz.f279,go_sem];rfl)
theorem CS:aA Tryz.prog 279 yw.1 [.cell 6 true 11,.cell 7 true 63,.tmp 8,.tmp 9] 131:=SC.okA yw Tryz.f279
noncomputable def yx:SC (aB Tryz.f280):=SC.mk' (by simp only [Tryz.f280,go_sem];rfl)
theorem CU:aA Tryz.prog 280 yx.1 [.cell 6 true 11,.cell 7 true 63,.tmp 8,.tmp 9] 151:=SC.okA yx Tryz.f280
noncomputable def NE:SC (aB Tryz.f281):=SC.mk' (by simp only [Tryz.f281,go_sem];rfl)
theorem aaR:aA Tryz.prog 281 NE.1 [.cell 6 true 11,.cell 7 true 63,.tmp 8,.tmp 9] 86:=SC.okA NE Tryz.f281
noncomputable def rD:SC (aB Tryz.f282):=SC.mk' (by simp only [Tryz.f282,go_sem];rfl)
theorem uQ:aA Tryz.prog 282 rD.1 [.cell 6 true 11,.cell 7 true 63,.tmp 8,.tmp 9] 163:=SC.okA rD Tryz.f282
noncomputable def Ac:SC (aB Tryz.f283):=SC.mk' (by simp only [Tryz.f283,go_sem];rfl)
theorem Fa:aA Tryz.prog 283 Ac.1 [.cell 6 true 11,.cell 7 true 63,.tmp 8,.tmp 9] 108:=SC.okA Ac Tryz.f283
noncomputable def uS:SC (aB Tryz.f284):=SC.mk' (by simp only [Tryz.f284,go_sem];rfl)
theorem yA:aA Tryz.prog 284 uS.1 [.cell 6 true 11,.cell 7 true 63,.tmp 8,.tmp 9] 88:=SC.okA uS Tryz.f284
noncomputable def uU:SC (aB Tryz.f285):=SC.mk' (by simp only [Tryz.f285,go_sem];rfl)
theorem yB:aA Tryz.prog 285 uU.1 [.cell 6 true 11,.cell 7 true 63,.tmp 8,.tmp 9] 88:=SC.okA uU Tryz.f285
noncomputable def uV:SC (aB Tryz.f286):=SC.mk' (by simp only [Tryz.f286,go_sem];rfl)
theorem yC:aA Tryz.prog 286 uV.1 [.cell 6 true 11,.cell 7 true 63,.tmp 8,.tmp 9] 88:=SC.okA uV Tryz.f286
noncomputable def uX:SC (aB Tryz.f287):=SC.mk' (by simp only [Tryz.f287,go_sem];rfl)
theorem yD:aA Tryz.prog 287 uX.1 [.cell 6 true 11,.cell 7 true 63,.tmp 8,.tmp 9] 85:=SC.okA uX Tryz.f287
noncomputable def uY:SC (aB Tryz.f288):=SC.mk' (by simp only [Tryz.f288,go_sem];rfl)
theorem yE:aA Tryz.prog 288 uY.1 [.cell 6 true 11,.cell 7 true 63,.tmp 8,.tmp 9] 88:=SC.okA uY Tryz.f288
noncomputable def SS:SC (aB Tryz.f292):=SC.mk' (by simp only [Tryz.f292,go_sem];rfl)
theorem aiR:aA Tryz.prog 292 SS.1 [.cell 6 true 11,.cell 7 true 5,.tmp 8] 62:=SC.okA SS Tryz.f292
noncomputable def SV:SC (aB Tryz.f298):=SC.mk' (by simp only [Tryz.f298,go_sem];rfl)
theorem aiS:aA Tryz.prog 298 SV.1 [.tmp 2] 5:=SC.okA SV Tryz.f298
noncomputable def SX:SC (aB Tryz.f299):=SC.mk' (by simp only [Tryz.f299,go_sem];rfl)
theorem aiT:aA Tryz.prog 299 SX.1 [.tmp 2] 8:=SC.okA SX Tryz.f299
noncomputable def NF:SC (aB Tryz.f338):=SC.mk' (by simp only [Tryz.f338,go_sem];rfl)
theorem aaS:aA Tryz.prog 338 NF.1 [.tmp 2] 21:=SC.okA NF Tryz.f338
noncomputable def SY:SC (aB Tryz.f341):=SC.mk' (by simp only [Tryz.f341,go_sem];rfl)
theorem aiU:aA Tryz.prog 341 SY.1 [.tmp 6] 21:=SC.okA SY Tryz.f341
noncomputable def S9:SC (aB Tryz.f342):=SC.mk' (by simp only [Tryz.f342,go_sem];rfl)
theorem aiV:aA Tryz.prog 342 S9.1 [.tmp 4,.tmp 5] 19:=SC.okA S9 Tryz.f342
noncomputable def Tc:SC (aB Tryz.f343):=SC.mk' (by simp only [Tryz.f343,go_sem];rfl)
theorem aiW:aA Tryz.prog 343 Tc.1 [.cell 6 true 10] 14:=SC.okA Tc Tryz.f343
noncomputable def Td:SC (aB Tryz.f344):=SC.mk' (by simp only [Tryz.f344,go_sem];rfl)
theorem aiX:aA Tryz.prog 344 Td.1 [.cell 6 true 63] 41:=SC.okA Td Tryz.f344
noncomputable def Tf:SC (aB Tryz.f345):=SC.mk' (by simp only [Tryz.f345,go_sem];rfl)
theorem aiY:aA Tryz.prog 345 Tf.1 [.cell 8 true 11,.tmp 9,.tmp 10] 54:=SC.okA Tf Tryz.f345
noncomputable def Ti:SC (aB Tryz.f346):=SC.mk' (by simp only [Tryz.f346,go_sem];rfl)
theorem aiZ:aA Tryz.prog 346 Ti.1 [.cell 2 true 2,.tmp 3] 13:=SC.okA Ti Tryz.f346
noncomputable def Tj:SC (aB Tryz.f347):=SC.mk' (by simp only [Tryz.f347,go_sem];rfl)
theorem ai0:aA Tryz.prog 347 Tj.1 [.tmp 2] 24:=SC.okA Tj Tryz.f347
noncomputable def Tn:SC (aB Tryz.f348):=SC.mk' (by simp only [Tryz.f348,go_sem];rfl)
theorem ai1:aA Tryz.prog 348 Tn.1 [.cell 8 true 63] 23:=SC.okA Tn Tryz.f348
noncomputable def Tq:SC (aB Tryz.f349):=SC.mk' (by simp only [Tryz.f349,go_sem];rfl)
theorem ai2:aA Tryz.prog 349 Tq.1 [.cell 6 true 11,.cell 7 true 63,.tmp 8,.tmp 9,.tmp 10] 40:=SC.okA Tq Tryz.f349
noncomputable def Tt:SC (aB Tryz.f350):=SC.mk' (by simp only [Tryz.f350,go_sem];rfl)
theorem ai3:aA Tryz.prog 350 Tt.1 [.cell 2 true 63,.tmp 3] 121:=SC.okA Tt Tryz.f350
noncomputable def Tv:SC (aB Tryz.f351):=SC.mk' (by simp only [Tryz.f351,go_sem];rfl)
theorem ai4:aA Tryz.prog 351 Tv.1 [.cell 2 true 3] 5:=SC.okA Tv Tryz.f351
noncomputable def Tz:SC (aB Tryz.f352):=SC.mk' (by simp only [Tryz.f352,go_sem];rfl)
theorem ai5:aA Tryz.prog 352 Tz.1 [.tmp 4] 14:=SC.okA Tz Tryz.f352
noncomputable def TA:SC (aB Tryz.f353):=SC.mk' (by simp only [Tryz.f353,go_sem];rfl)
theorem ai6:aA Tryz.prog 353 TA.1 [.cell 4 true 3,.tmp 5] 23:=SC.okA TA Tryz.f353
noncomputable def TB:SC (aB Tryz.f354):=SC.mk' (by simp only [Tryz.f354,go_sem];rfl)
theorem ai7:aA Tryz.prog 354 TB.1 [.cell 6 true 63] 19:=SC.okA TB Tryz.f354
noncomputable def rE:SC (aB Tryz.f355):=SC.mk' (by simp only [Tryz.f355,go_sem];rfl)
theorem uZ:aA Tryz.prog 355 rE.1 [.cell 2 true 63,.tmp 3] 156:=SC.okA rE Tryz.f355
noncomputable def TD:SC (aB Tryz.f356):=SC.mk' (by simp only [Tryz.f356,go_sem];rfl)
theorem ai8:aA Tryz.prog 356 TD.1 [.cell 2 true 7] 55:=SC.okA TD Tryz.f356
noncomputable def TF:SC (aB Tryz.f357):=SC.mk' (by simp only [Tryz.f357,go_sem];rfl)
theorem ai9:aA Tryz.prog 357 TF.1 [.tmp 2] 8:=SC.okA TF Tryz.f357
noncomputable def TG:SC (aB Tryz.f358):=SC.mk' (by simp only [Tryz.f358,go_sem];rfl)
theorem aja:aA Tryz.prog 358 TG.1 [.cell 2 true 63,.tmp 3] 76:=SC.okA TG Tryz.f358
end Go.Eng
