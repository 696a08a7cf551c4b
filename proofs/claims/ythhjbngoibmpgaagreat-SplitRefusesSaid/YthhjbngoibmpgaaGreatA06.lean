/-
  Part of a proof: lemmas and definitions of this work.
  No condition.
-/
import Derived.Test.YthhjbngoibmpgaaGreatA04
import Derived.Test.YthhjbngoibmpgaaGreatProg
set_option linter.all false
set_option maxRecDepth 100000
set_option maxHeartbeats 8000000
namespace Go.Eng
open Go Go.Proofs
theorem IV:bF Tryz.prog 3=some 1:=by kernel_rfl
theorem IW:bF Tryz.prog 4=some 1:=by kernel_rfl
theorem IX:bF Tryz.prog 5=some 1:=by kernel_rfl
theorem IY:bF Tryz.prog 9=some 1:=by kernel_rfl
theorem IZ:bF Tryz.prog 22=some 1:=by kernel_rfl
theorem I4:bF Tryz.prog 26=some 8:=by kernel_rfl
theorem I5:bF Tryz.prog 27=some 1:=by kernel_rfl
theorem I6:bF Tryz.prog 28=some 1:=by kernel_rfl
theorem I7:bF Tryz.prog 29=some 1:=by kernel_rfl
theorem I8:bF Tryz.prog 31=some 2:=by kernel_rfl
theorem I9:bF Tryz.prog 33=some 3:=by kernel_rfl
theorem Ja:bF Tryz.prog 34=some 1:=by kernel_rfl
theorem Jb:bF Tryz.prog 36=some 3:=by kernel_rfl
theorem Jc:bF Tryz.prog 38=some 11:=by kernel_rfl
theorem Jd:bF Tryz.prog 39=some 1:=by kernel_rfl
theorem Je:bF Tryz.prog 40=some 1:=by kernel_rfl
theorem Jf:bF Tryz.prog 41=some 1:=by kernel_rfl
theorem Jg:bF Tryz.prog 43=some 23:=by kernel_rfl
theorem Jh:bF Tryz.prog 50=some 5:=by kernel_rfl
theorem Ji:bF Tryz.prog 52=some 4:=by kernel_rfl
theorem Jj:bF Tryz.prog 53=some 1:=by kernel_rfl
theorem Jk:bF Tryz.prog 54=some 1:=by kernel_rfl
theorem Jl:bF Tryz.prog 56=some 6:=by kernel_rfl
theorem Jm:bF Tryz.prog 58=some 26:=by kernel_rfl
theorem Jo:bF Tryz.prog 59=some 1:=by kernel_rfl
theorem Jp:bF Tryz.prog 77=some 4:=by kernel_rfl
theorem Jq:bF Tryz.prog 80=some 3:=by kernel_rfl
theorem Jr:bF Tryz.prog 81=some 1:=by kernel_rfl
theorem Js:bF Tryz.prog 82=some 1:=by kernel_rfl
theorem Jt:bF Tryz.prog 84=some 2:=by kernel_rfl
theorem Ju:bF Tryz.prog 86=some 8:=by kernel_rfl
theorem Jv:bF Tryz.prog 88=some 9:=by kernel_rfl
theorem Jw:bF Tryz.prog 90=some 1:=by kernel_rfl
theorem Jy:bF Tryz.prog 91=some 1:=by kernel_rfl
theorem Jz:bF Tryz.prog 93=some 8:=by kernel_rfl
theorem JA:bF Tryz.prog 94=some 1:=by kernel_rfl
theorem JB:bF Tryz.prog 96=some 2:=by kernel_rfl
theorem JC:bF Tryz.prog 98=some 4:=by kernel_rfl
theorem JD:bF Tryz.prog 100=some 63:=by kernel_rfl
theorem JE:bF Tryz.prog 111=some 7:=by kernel_rfl
theorem JF:bF Tryz.prog 123=some 7:=by kernel_rfl
theorem JG:bF Tryz.prog 149=some 3:=by kernel_rfl
theorem JH:bF Tryz.prog 175=some 1:=by kernel_rfl
theorem JI:bF Tryz.prog 177=some 10:=by kernel_rfl
theorem JJ:bF Tryz.prog 194=some 1:=by kernel_rfl
theorem JK:bF Tryz.prog 196=some 12:=by kernel_rfl
theorem JL:bF Tryz.prog 201=some 4:=by kernel_rfl
theorem JM:bF Tryz.prog 233=some 4:=by kernel_rfl
theorem JN:bF Tryz.prog 239=some 8:=by kernel_rfl
theorem JO:bF Tryz.prog 253=some 2:=by kernel_rfl
theorem JP:bF Tryz.prog 256=some 3:=by kernel_rfl
theorem JQ:dh Tryz.prog 3=some false:=by kernel_rfl
theorem JR:dh Tryz.prog 4=some false:=by kernel_rfl
theorem JS:dh Tryz.prog 5=some false:=by kernel_rfl
theorem JU:dh Tryz.prog 9=some false:=by kernel_rfl
theorem JV:dh Tryz.prog 22=some false:=by kernel_rfl
theorem JW:dh Tryz.prog 26=some true:=by kernel_rfl
theorem JX:dh Tryz.prog 27=some false:=by kernel_rfl
theorem JY:dh Tryz.prog 28=some false:=by kernel_rfl
theorem JZ:dh Tryz.prog 29=some false:=by kernel_rfl
theorem J2:dh Tryz.prog 31=some true:=by kernel_rfl
theorem J3:dh Tryz.prog 34=some false:=by kernel_rfl
theorem J4:dh Tryz.prog 36=some true:=by kernel_rfl
theorem J5:dh Tryz.prog 38=some true:=by kernel_rfl
theorem J6:dh Tryz.prog 39=some false:=by kernel_rfl
theorem J7:dh Tryz.prog 40=some false:=by kernel_rfl
theorem J8:dh Tryz.prog 41=some false:=by kernel_rfl
theorem J9:dh Tryz.prog 43=some true:=by kernel_rfl
theorem Ka:dh Tryz.prog 50=some true:=by kernel_rfl
theorem Kb:dh Tryz.prog 52=some true:=by kernel_rfl
theorem Kc:dh Tryz.prog 53=some false:=by kernel_rfl
theorem Ke:dh Tryz.prog 54=some false:=by kernel_rfl
theorem Kg:dh Tryz.prog 56=some true:=by kernel_rfl
theorem Kh:dh Tryz.prog 58=some true:=by kernel_rfl
theorem Ki:dh Tryz.prog 59=some false:=by kernel_rfl
theorem Kj:dh Tryz.prog 77=some true:=by kernel_rfl
theorem Kk:dh Tryz.prog 80=some true:=by kernel_rfl
theorem Kl:dh Tryz.prog 81=some false:=by kernel_rfl
theorem Km:dh Tryz.prog 82=some false:=by kernel_rfl
theorem Kn:dh Tryz.prog 84=some true:=by kernel_rfl
theorem Ko:dh Tryz.prog 86=some true:=by kernel_rfl
theorem Kq:dh Tryz.prog 90=some false:=by kernel_rfl
theorem Kr:dh Tryz.prog 91=some false:=by kernel_rfl
theorem Kt:dh Tryz.prog 93=some true:=by kernel_rfl
theorem Ku:dh Tryz.prog 94=some false:=by kernel_rfl
theorem Kv:dh Tryz.prog 96=some true:=by kernel_rfl
theorem Kw:dh Tryz.prog 98=some true:=by kernel_rfl
theorem Ky:dh Tryz.prog 100=some true:=by kernel_rfl
theorem Kz:dh Tryz.prog 111=some true:=by kernel_rfl
theorem KA:dh Tryz.prog 123=some true:=by kernel_rfl
theorem KC:dh Tryz.prog 149=some true:=by kernel_rfl
theorem KD:dh Tryz.prog 175=some false:=by kernel_rfl
theorem KE:dh Tryz.prog 177=some true:=by kernel_rfl
theorem KF:dh Tryz.prog 194=some false:=by kernel_rfl
theorem KG:dh Tryz.prog 196=some true:=by kernel_rfl
theorem KH:dh Tryz.prog 201=some true:=by kernel_rfl
theorem KI:dh Tryz.prog 233=some true:=by kernel_rfl
theorem KJ:dh Tryz.prog 239=some true:=by kernel_rfl
theorem KL:dh Tryz.prog 253=some true:=by kernel_rfl
theorem KM:dh Tryz.prog 256=some true:=by kernel_rfl
theorem KN:dm Tryz.prog 3=some [(.int .i64 0)]:=by kernel_rfl
theorem KO:dm Tryz.prog 5=some [(.int .u8 0)]:=by kernel_rfl
theorem KP:dm Tryz.prog 9=some [(.string ⟨#[]⟩)]:=by kernel_rfl
theorem KQ:dm Tryz.prog 26=some [(.int .i64 0),(.int .i64 0),(.int .i64 0),(.int .i64 0),(.int .i64 0),(.int .i64 0),(.int .i64 0),(.int .i64 0)]:=by kernel_rfl
theorem KR:dm Tryz.prog 31=some [(.int .i64 0),(.slice none 0 0)]:=by kernel_rfl
theorem KS:dm Tryz.prog 36=some [(.int .i64 0),(.slice none 0 0),(.slice none 0 0)]:=by kernel_rfl
theorem KT:dm Tryz.prog 38=some [(.slice none 0 0),(.slice none 0 0),(.int .i64 0),(.int .i64 0),(.slice none 0 0),(.int .i64 0),(.slice none 0 0),(.slice none 0 0),(.int .i64 0),(.int .i64 0),(.int .i64 0)]:=by kernel_rfl
theorem KU:dm Tryz.prog 43=some [(.int .i64 0),(.int .i64 0),(.int .i64 0),(.int .i64 0),(.int .i64 0),(.int .i64 0),(.int .i64 0),(.int .i64 0),(.slice none 0 0),(.slice none 0 0),(.int .i64 0),(.int .i64 0),(.slice none 0 0),(.int .i64 0),(.slice none 0 0),(.slice none 0 0),(.int .i64 0),(.int .i64 0),(.int .i64 0),(.slice none 0 0),(.slice none 0 0),(.int .i64 0),(.slice none 0 0)]:=by kernel_rfl
theorem KV:dm Tryz.prog 50=some [(.slice none 0 0),(.int .i64 0),(.int .i64 0),(.int .i64 0),(.int .i64 0)]:=by kernel_rfl
theorem KW:dm Tryz.prog 52=some [(.int .i64 0),(.int .i64 0),(.int .i64 0),(.int .i64 0)]:=by kernel_rfl
theorem KX:dm Tryz.prog 56=some [(.slice none 0 0),(.int .i64 0),(.slice none 0 0),(.slice none 0 0),(.slice none 0 0),(.slice none 0 0)]:=by kernel_rfl
theorem KY:dm Tryz.prog 58=some [(.int .i64 0),(.int .i64 0),(.slice none 0 0),(.int .i64 0),(.int .i64 0),(.int .i64 0),(.int .i64 0),(.int .i64 0),(.int .i64 0),(.int .i64 0),(.int .i64 0),(.slice none 0 0),(.int .i64 0),(.slice none 0 0),(.slice none 0 0),(.int .i64 0),(.slice none 0 0),(.slice none 0 0),(.slice none 0 0),(.int .i64 0),(.slice none 0 0),(.slice none 0 0),(.slice none 0 0),(.slice none 0 0),(.int .i64 0),(.slice none 0 0)]:=by kernel_rfl
theorem KZ:dm Tryz.prog 77=some [(.int .i64 0),(.int .i64 0),(.int .i64 0),(.int .i64 0)]:=by kernel_rfl
theorem K3:dm Tryz.prog 80=some [(.slice none 0 0),(.int .i64 0),(.int .i64 0)]:=by kernel_rfl
theorem K4:dm Tryz.prog 84=some [(.slice none 0 0),(.slice none 0 0)]:=by kernel_rfl
theorem K5:dm Tryz.prog 86=some [(.bool false),(.int .i64 0),(.int .i64 0),(.slice none 0 0),(.int .i64 0),(.int .i64 0),(.slice none 0 0),(.slice none 0 0)]:=by kernel_rfl
theorem K6:dm Tryz.prog 88=some [(.int .i64 0),(.bool false),(.int .i64 0),(.int .i64 0),(.slice none 0 0),(.int .i64 0),(.int .i64 0),(.slice none 0 0),(.slice none 0 0)]:=by kernel_rfl
theorem K7:dm Tryz.prog 91=some [(.slice none 0 0)]:=by kernel_rfl
theorem K8:dm Tryz.prog 93=some [(.int .i64 0),(.int .i64 0),(.int .i64 0),(.int .i64 0),(.int .i64 0),(.int .i64 0),(.slice none 0 0),(.slice none 0 0)]:=by kernel_rfl
theorem K9:dm Tryz.prog 96=some [(.int .i64 0),(.int .i64 0)]:=by kernel_rfl
theorem La:dm Tryz.prog 98=some [(.int .i64 0),(.int .i64 0),(.int .i64 0),(.int .i64 0)]:=by kernel_rfl
theorem Lb:dm Tryz.prog 100=some [(.int .i64 0),(.int .i64 0),(.int .i64 0),(.int .i64 0),(.int .i64 0),(.int .i64 0),(.int .i64 0),(.slice none 0 0),(.slice none 0 0),(.int .i64 0),(.bool false),(.int .i64 0),(.int .i64 0),(.int .i64 0),(.slice none 0 0),(.int .i64 0),(.int .i64 0),(.int .i64 0),(.int .i64 0),(.int .i64 0),(.int .i64 0),(.int .i64 0),(.int .i64 0),(.int .i64 0),(.int .i64 0),(.slice none 0 0),(.int .i64 0),(.int .i64 0),(.int .i64 0),(.int .i64 0),(.int .i64 0),(.int .i64 0),(.int .i64 0),(.int .i64 0),(.slice none 0 0),(.int .i64 0),(.slice none 0 0),(.slice none 0 0),(.int .i64 0),(.slice none 0 0),(.slice none 0 0),(.slice none 0 0),(.int .i64 0),(.slice none 0 0),(.slice none 0 0),(.slice none 0 0),(.slice none 0 0),(.int .i64 0),(.slice none 0 0),(.int .i64 0),(.slice none 0 0),(.slice none 0 0),(.int .i64 0),(.int .i64 0),(.int .i64 0),(.int .i64 0),(.int .i64 0),(.int .i64 0),(.int .i64 0),(.int .i64 0),(.int .i64 0),(.slice none 0 0),(.slice none 0 0)]:=by kernel_rfl
theorem Lc:dm Tryz.prog 111=some [(.int .i64 0),(.int .i64 0),(.slice none 0 0),(.slice none 0 0),(.int .i64 0),(.int .i64 0),(.int .i64 0)]:=by kernel_rfl
theorem Ld:dm Tryz.prog 123=some [(.int .i64 0),(.int .i64 0),(.int .i64 0),(.int .i64 0),(.int .i64 0),(.int .i64 0),(.string ⟨#[]⟩)]:=by kernel_rfl
theorem Le:dm Tryz.prog 125=some [(.slice none 0 0),(.int .i64 0)]:=by kernel_rfl
theorem Lf:dm Tryz.prog 149=some [(.int .i64 0),(.int .i64 0),(.int .i64 0)]:=by kernel_rfl
theorem Lg:dm Tryz.prog 177=some [(.int .i64 0),(.int .i64 0),(.int .i64 0),(.int .i64 0),(.int .i64 0),(.int .i64 0),(.int .i64 0),(.slice none 0 0),(.int .i64 0),(.int .i64 0)]:=by kernel_rfl
theorem Lh:dm Tryz.prog 196=some [(.int .i64 0),(.int .i64 0),(.int .i64 0),(.int .i64 0),(.int .i64 0),(.int .i64 0),(.int .i64 0),(.int .i64 0),(.int .i64 0),(.slice none 0 0),(.slice none 0 0),(.slice none 0 0)]:=by kernel_rfl
theorem Li:dm Tryz.prog 201=some [(.int .i64 0),(.int .i64 0),(.int .i64 0),(.int .i64 0)]:=by kernel_rfl
theorem Lj:dm Tryz.prog 233=some [(.int .i64 0),(.int .i64 0),(.int .i64 0),(.int .i64 0)]:=by kernel_rfl
theorem Ll:dm Tryz.prog 239=some [(.int .i64 0),(.int .i64 0),(.int .i64 0),(.int .i64 0),(.int .i64 0),(.int .i64 0),(.string ⟨#[]⟩),(.int .i64 0)]:=by kernel_rfl
theorem Lm:dm Tryz.prog 253=some [(.int .i64 0),(.int .i64 0)]:=by kernel_rfl
theorem Lp:dm Tryz.prog 256=some [(.int .i64 0),(.int .i64 0),(.slice none 0 0)]:=by kernel_rfl
theorem Lr:iQ Tryz.prog 3=some 8:=by kernel_rfl
theorem Ls:iQ Tryz.prog 5=some 1:=by kernel_rfl
theorem Lu:iQ Tryz.prog 9=some 16:=by kernel_rfl
theorem Lv:iQ Tryz.prog 77=some 32:=by kernel_rfl
theorem Lx:iQ Tryz.prog 86=some 112:=by kernel_rfl
theorem LA:iQ Tryz.prog 88=some 120:=by kernel_rfl
theorem LB:iQ Tryz.prog 91=some 24:=by kernel_rfl
theorem LC:iQ Tryz.prog 100=some 808:=by kernel_rfl
theorem LD:iQ Tryz.prog 111=some 88:=by kernel_rfl
theorem LF:iQ Tryz.prog 123=some 64:=by kernel_rfl
theorem LG:iQ Tryz.prog 149=some 24:=by kernel_rfl
theorem LH:iQ Tryz.prog 177=some 96:=by kernel_rfl
theorem LJ:iQ Tryz.prog 196=some 144:=by kernel_rfl
theorem LK:iQ Tryz.prog 233=some 32:=by kernel_rfl
theorem LM:iQ Tryz.prog 239=some 72:=by kernel_rfl
theorem LP:iQ Tryz.prog 253=some 16:=by kernel_rfl
theorem LQ:iQ Tryz.prog 256=some 40:=by kernel_rfl
theorem LU:vH Tryz.prog 4=some (.bool false):=by kernel_rfl
theorem LV:Tryz.prog.stoodInHeld 77=false:=by kernel_rfl
theorem LW:Tryz.prog.eqGuardType Tryz.prog.depth 77=false:=by kernel_rfl
theorem LX:Tryz.prog.stoodInHeld 123=false:=by kernel_rfl
theorem LY:Tryz.prog.eqGuardType Tryz.prog.depth 123=false:=by kernel_rfl
abbrev SC (c:Code):={s:eY // gV Tryz.prog c=some s}
def SC.mk' {c:Code} {s:eY} (h:gV Tryz.prog c=some s:=by simp only [go_sem];rfl):SC c:=⟨s,h⟩
abbrev aB (fn:Func):Code:=fn.body.getD .skip
theorem SC.aC {f:FuncId} {fn:Func} (x:SC (aB fn)) {res:List iJ} {nt:Nat} (h1:Tryz.prog.funcs[f]? =some fn:=by kernel_rfl) (h2:(fn.name== "runtime.NumGoroutine")=false:=by kernel_rfl) (h3:fn.body=some (aB fn):=by kernel_rfl) (h4:vN Tryz.prog fn.results.toList=some res:=by kernel_rfl)
 (h5:fn.results.toList.length<=5:=by decide) (h6:fn.ntmps=nt:=by kernel_rfl) (h7:jK nt x.1=true:=by kernel_rfl) (h8:Tryz.prog.follows .mixedOrders=true:=by kernel_rfl):aA Tryz.prog f x.1 res nt:=⟨⟨fn,aB fn,h1,h2,h3,x.2,h4,h5,h6⟩,h7,h8⟩
end Go.Eng
