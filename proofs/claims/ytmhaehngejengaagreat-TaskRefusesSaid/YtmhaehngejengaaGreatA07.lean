/-
  Part of a proof: lemmas and definitions of this work.
  No condition.
-/
import Derived.Test.YtmhaehngejengaaGreatA04
import Derived.Test.YtmhaehngejengaaGreatProg
set_option linter.all false
set_option maxRecDepth 100000
set_option maxHeartbeats 8000000
namespace Go.Eng
open Go Go.Proofs
theorem Ik:bJ Tryz.prog 3=some 1:=by kernel_rfl
theorem Il:bJ Tryz.prog 4=some 1:=by kernel_rfl
theorem Io:bJ Tryz.prog 5=some 1:=by kernel_rfl
theorem Ip:bJ Tryz.prog 9=some 1:=by kernel_rfl
theorem Iq:bJ Tryz.prog 22=some 1:=by kernel_rfl
theorem Ir:bJ Tryz.prog 26=some 8:=by kernel_rfl
theorem Iu:bJ Tryz.prog 27=some 1:=by kernel_rfl
theorem Iw:bJ Tryz.prog 28=some 1:=by kernel_rfl
theorem Iy:bJ Tryz.prog 29=some 1:=by kernel_rfl
theorem Iz:bJ Tryz.prog 31=some 2:=by kernel_rfl
theorem IA:bJ Tryz.prog 33=some 3:=by kernel_rfl
theorem IB:bJ Tryz.prog 34=some 1:=by kernel_rfl
theorem IC:bJ Tryz.prog 36=some 3:=by kernel_rfl
theorem IE:bJ Tryz.prog 38=some 11:=by kernel_rfl
theorem IG:bJ Tryz.prog 39=some 1:=by kernel_rfl
theorem II:bJ Tryz.prog 40=some 1:=by kernel_rfl
theorem IJ:bJ Tryz.prog 41=some 1:=by kernel_rfl
theorem IK:bJ Tryz.prog 43=some 23:=by kernel_rfl
theorem IL:bJ Tryz.prog 45=some 1:=by kernel_rfl
theorem IQ:bJ Tryz.prog 46=some 1:=by kernel_rfl
theorem IU:bJ Tryz.prog 48=some 8:=by kernel_rfl
theorem IV:bJ Tryz.prog 49=some 1:=by kernel_rfl
theorem IW:bJ Tryz.prog 51=some 5:=by kernel_rfl
theorem IX:bJ Tryz.prog 53=some 4:=by kernel_rfl
theorem IY:bJ Tryz.prog 54=some 1:=by kernel_rfl
theorem IZ:bJ Tryz.prog 55=some 1:=by kernel_rfl
theorem I4:bJ Tryz.prog 57=some 6:=by kernel_rfl
theorem I5:bJ Tryz.prog 59=some 26:=by kernel_rfl
theorem I7:bJ Tryz.prog 61=some 2:=by kernel_rfl
theorem I8:bJ Tryz.prog 63=some 4:=by kernel_rfl
theorem I9:bJ Tryz.prog 65=some 63:=by kernel_rfl
theorem Ja:bJ Tryz.prog 66=some 1:=by kernel_rfl
theorem Jb:bJ Tryz.prog 68=some 1:=by kernel_rfl
theorem Jc:bJ Tryz.prog 86=some 7:=by kernel_rfl
theorem Jd:bJ Tryz.prog 90=some 7:=by kernel_rfl
theorem Je:bJ Tryz.prog 91=some 1:=by kernel_rfl
theorem Jf:bJ Tryz.prog 93=some 10:=by kernel_rfl
theorem Jg:bJ Tryz.prog 95=some 4:=by kernel_rfl
theorem Jh:bJ Tryz.prog 97=some 3:=by kernel_rfl
theorem Ji:bJ Tryz.prog 98=some 1:=by kernel_rfl
theorem Jj:bJ Tryz.prog 99=some 1:=by kernel_rfl
theorem Jk:bJ Tryz.prog 101=some 2:=by kernel_rfl
theorem Jl:bJ Tryz.prog 103=some 8:=by kernel_rfl
theorem Jm:bJ Tryz.prog 105=some 9:=by kernel_rfl
theorem Jo:bJ Tryz.prog 125=some 3:=by kernel_rfl
theorem Jp:bJ Tryz.prog 129=some 1:=by kernel_rfl
theorem Jq:bJ Tryz.prog 131=some 12:=by kernel_rfl
theorem Jr:bJ Tryz.prog 176=some 8:=by kernel_rfl
theorem Js:bJ Tryz.prog 180=some 2:=by kernel_rfl
theorem Jt:bJ Tryz.prog 186=some 3:=by kernel_rfl
theorem Ju:bJ Tryz.prog 198=some 3:=by kernel_rfl
theorem Jv:bJ Tryz.prog 200=some 4:=by kernel_rfl
theorem Jw:bJ Tryz.prog 212=some 1:=by kernel_rfl
theorem Jy:bJ Tryz.prog 298=some 4:=by kernel_rfl
theorem Jz:bJ Tryz.prog 369=some 2:=by kernel_rfl
theorem JA:bJ Tryz.prog 409=some 2:=by kernel_rfl
theorem JB:dH Tryz.prog 3=some false:=by kernel_rfl
theorem JC:dH Tryz.prog 4=some false:=by kernel_rfl
theorem JD:dH Tryz.prog 5=some false:=by kernel_rfl
theorem JE:dH Tryz.prog 9=some false:=by kernel_rfl
theorem JF:dH Tryz.prog 22=some false:=by kernel_rfl
theorem JG:dH Tryz.prog 26=some true:=by kernel_rfl
theorem JH:dH Tryz.prog 27=some false:=by kernel_rfl
theorem JI:dH Tryz.prog 28=some false:=by kernel_rfl
theorem JJ:dH Tryz.prog 29=some false:=by kernel_rfl
theorem JK:dH Tryz.prog 31=some true:=by kernel_rfl
theorem JL:dH Tryz.prog 34=some false:=by kernel_rfl
theorem JM:dH Tryz.prog 36=some true:=by kernel_rfl
theorem JO:dH Tryz.prog 38=some true:=by kernel_rfl
theorem JP:dH Tryz.prog 39=some false:=by kernel_rfl
theorem JQ:dH Tryz.prog 40=some false:=by kernel_rfl
theorem JR:dH Tryz.prog 41=some false:=by kernel_rfl
theorem JS:dH Tryz.prog 43=some true:=by kernel_rfl
theorem JU:dH Tryz.prog 45=some false:=by kernel_rfl
theorem JV:dH Tryz.prog 46=some false:=by kernel_rfl
theorem JW:dH Tryz.prog 48=some true:=by kernel_rfl
theorem JX:dH Tryz.prog 49=some false:=by kernel_rfl
theorem JY:dH Tryz.prog 51=some true:=by kernel_rfl
theorem JZ:dH Tryz.prog 53=some true:=by kernel_rfl
theorem J3:dH Tryz.prog 54=some false:=by kernel_rfl
theorem J4:dH Tryz.prog 55=some false:=by kernel_rfl
theorem J5:dH Tryz.prog 57=some true:=by kernel_rfl
theorem J6:dH Tryz.prog 59=some true:=by kernel_rfl
theorem J7:dH Tryz.prog 61=some true:=by kernel_rfl
theorem J8:dH Tryz.prog 63=some true:=by kernel_rfl
theorem J9:dH Tryz.prog 65=some true:=by kernel_rfl
theorem Ko:dH Tryz.prog 66=some false:=by kernel_rfl
theorem Kq:dH Tryz.prog 68=some false:=by kernel_rfl
theorem Kr:dH Tryz.prog 86=some true:=by kernel_rfl
theorem Kt:dH Tryz.prog 90=some true:=by kernel_rfl
theorem Ku:dH Tryz.prog 91=some false:=by kernel_rfl
theorem Kv:dH Tryz.prog 93=some true:=by kernel_rfl
theorem Kw:dH Tryz.prog 95=some true:=by kernel_rfl
theorem Ky:dH Tryz.prog 97=some true:=by kernel_rfl
theorem Kz:dH Tryz.prog 98=some false:=by kernel_rfl
theorem KA:dH Tryz.prog 99=some false:=by kernel_rfl
theorem KC:dH Tryz.prog 101=some true:=by kernel_rfl
theorem KD:dH Tryz.prog 103=some true:=by kernel_rfl
theorem KE:dH Tryz.prog 125=some true:=by kernel_rfl
theorem KF:dH Tryz.prog 129=some false:=by kernel_rfl
theorem KG:dH Tryz.prog 131=some true:=by kernel_rfl
theorem KH:dH Tryz.prog 176=some true:=by kernel_rfl
theorem KI:dH Tryz.prog 180=some true:=by kernel_rfl
theorem KJ:dH Tryz.prog 186=some true:=by kernel_rfl
theorem KL:dH Tryz.prog 198=some true:=by kernel_rfl
theorem KN:dH Tryz.prog 200=some true:=by kernel_rfl
theorem KO:dH Tryz.prog 212=some false:=by kernel_rfl
theorem KP:dH Tryz.prog 298=some true:=by kernel_rfl
theorem KQ:dH Tryz.prog 369=some true:=by kernel_rfl
theorem KR:dH Tryz.prog 409=some true:=by kernel_rfl
theorem KT:dN Tryz.prog 3=some [(.int .i64 0)]:=by kernel_rfl
theorem KU:dN Tryz.prog 5=some [(.int .u8 0)]:=by kernel_rfl
theorem KW:dN Tryz.prog 9=some [(.string ⟨#[]⟩)]:=by kernel_rfl
theorem KX:dN Tryz.prog 26=some [(.int .i64 0),(.int .i64 0),(.int .i64 0),(.int .i64 0),(.int .i64 0),(.int .i64 0),(.int .i64 0),(.int .i64 0)]:=by kernel_rfl
theorem KY:dN Tryz.prog 31=some [(.int .i64 0),(.slice none 0 0)]:=by kernel_rfl
theorem KZ:dN Tryz.prog 36=some [(.int .i64 0),(.slice none 0 0),(.slice none 0 0)]:=by kernel_rfl
theorem La:dN Tryz.prog 38=some [(.slice none 0 0),(.slice none 0 0),(.int .i64 0),(.int .i64 0),(.slice none 0 0),(.int .i64 0),(.slice none 0 0),(.slice none 0 0),(.int .i64 0),(.int .i64 0),(.int .i64 0)]:=by kernel_rfl
theorem Lc:dN Tryz.prog 43=some [(.int .i64 0),(.int .i64 0),(.int .i64 0),(.int .i64 0),(.int .i64 0),(.int .i64 0),(.int .i64 0),(.int .i64 0),(.slice none 0 0),(.slice none 0 0),(.int .i64 0),(.int .i64 0),(.slice none 0 0),(.int .i64 0),(.slice none 0 0),(.slice none 0 0),(.int .i64 0),(.int .i64 0),(.int .i64 0),(.slice none 0 0),(.slice none 0 0),(.int .i64 0),(.slice none 0 0)]:=by kernel_rfl
theorem Ld:dN Tryz.prog 46=some [(.slice none 0 0)]:=by kernel_rfl
theorem Le:dN Tryz.prog 48=some [(.int .i64 0),(.int .i64 0),(.int .i64 0),(.int .i64 0),(.int .i64 0),(.int .i64 0),(.slice none 0 0),(.slice none 0 0)]:=by kernel_rfl
theorem Lh:dN Tryz.prog 51=some [(.slice none 0 0),(.int .i64 0),(.int .i64 0),(.int .i64 0),(.int .i64 0)]:=by kernel_rfl
theorem Lj:dN Tryz.prog 53=some [(.int .i64 0),(.int .i64 0),(.int .i64 0),(.int .i64 0)]:=by kernel_rfl
theorem Ll:dN Tryz.prog 57=some [(.slice none 0 0),(.int .i64 0),(.slice none 0 0),(.slice none 0 0),(.slice none 0 0),(.slice none 0 0)]:=by kernel_rfl
theorem Lm:dN Tryz.prog 59=some [(.int .i64 0),(.int .i64 0),(.slice none 0 0),(.int .i64 0),(.int .i64 0),(.int .i64 0),(.int .i64 0),(.int .i64 0),(.int .i64 0),(.int .i64 0),(.int .i64 0),(.slice none 0 0),(.int .i64 0),(.slice none 0 0),(.slice none 0 0),(.int .i64 0),(.slice none 0 0),(.slice none 0 0),(.slice none 0 0),(.int .i64 0),(.slice none 0 0),(.slice none 0 0),(.slice none 0 0),(.slice none 0 0),(.int .i64 0),(.slice none 0 0)]:=by kernel_rfl
theorem Lp:dN Tryz.prog 61=some [(.int .i64 0),(.int .i64 0)]:=by kernel_rfl
theorem Lr:dN Tryz.prog 63=some [(.int .i64 0),(.int .i64 0),(.int .i64 0),(.int .i64 0)]:=by kernel_rfl
theorem Ls:dN Tryz.prog 65=some [(.int .i64 0),(.int .i64 0),(.int .i64 0),(.int .i64 0),(.int .i64 0),(.int .i64 0),(.int .i64 0),(.slice none 0 0),(.slice none 0 0),(.int .i64 0),(.bool false),(.int .i64 0),(.int .i64 0),(.int .i64 0),(.slice none 0 0),(.int .i64 0),(.int .i64 0),(.int .i64 0),(.int .i64 0),(.int .i64 0),(.int .i64 0),(.int .i64 0),(.int .i64 0),(.int .i64 0),(.int .i64 0),(.slice none 0 0),(.int .i64 0),(.int .i64 0),(.int .i64 0),(.int .i64 0),(.int .i64 0),(.int .i64 0),(.int .i64 0),(.int .i64 0),(.slice none 0 0),(.int .i64 0),(.slice none 0 0),(.slice none 0 0),(.int .i64 0),(.slice none 0 0),(.slice none 0 0),(.slice none 0 0),(.int .i64 0),(.slice none 0 0),(.slice none 0 0),(.slice none 0 0),(.slice none 0 0),(.int .i64 0),(.slice none 0 0),(.int .i64 0),(.slice none 0 0),(.slice none 0 0),(.int .i64 0),(.int .i64 0),(.int .i64 0),(.int .i64 0),(.int .i64 0),(.int .i64 0),(.int .i64 0),(.int .i64 0),(.int .i64 0),(.slice none 0 0),(.slice none 0 0)]:=by kernel_rfl
theorem Lu:dN Tryz.prog 73=some [(.slice none 0 0),(.int .i64 0)]:=by kernel_rfl
theorem LC:dN Tryz.prog 86=some [(.int .i64 0),(.int .i64 0),(.int .i64 0),(.int .i64 0),(.int .i64 0),(.int .i64 0),(.string ⟨#[]⟩)]:=by kernel_rfl
theorem LD:dN Tryz.prog 90=some [(.int .i64 0),(.int .i64 0),(.slice none 0 0),(.slice none 0 0),(.int .i64 0),(.int .i64 0),(.int .i64 0)]:=by kernel_rfl
theorem LG:dN Tryz.prog 93=some [(.int .i64 0),(.int .i64 0),(.int .i64 0),(.int .i64 0),(.int .i64 0),(.int .i64 0),(.int .i64 0),(.slice none 0 0),(.int .i64 0),(.int .i64 0)]:=by kernel_rfl
theorem LH:dN Tryz.prog 95=some [(.int .i64 0),(.int .i64 0),(.int .i64 0),(.int .i64 0)]:=by kernel_rfl
theorem LJ:dN Tryz.prog 97=some [(.slice none 0 0),(.int .i64 0),(.int .i64 0)]:=by kernel_rfl
theorem LK:dN Tryz.prog 101=some [(.slice none 0 0),(.slice none 0 0)]:=by kernel_rfl
theorem LM:dN Tryz.prog 103=some [(.bool false),(.int .i64 0),(.int .i64 0),(.slice none 0 0),(.int .i64 0),(.int .i64 0),(.slice none 0 0),(.slice none 0 0)]:=by kernel_rfl
theorem LP:dN Tryz.prog 105=some [(.int .i64 0),(.bool false),(.int .i64 0),(.int .i64 0),(.slice none 0 0),(.int .i64 0),(.int .i64 0),(.slice none 0 0),(.slice none 0 0)]:=by kernel_rfl
theorem LQ:dN Tryz.prog 125=some [(.int .i64 0),(.int .i64 0),.nilFunc]:=by kernel_rfl
theorem LU:dN Tryz.prog 131=some [(.int .i64 0),(.int .i64 0),(.int .i64 0),(.int .i64 0),(.int .i64 0),(.int .i64 0),(.int .i64 0),(.int .i64 0),(.int .i64 0),(.slice none 0 0),(.slice none 0 0),(.slice none 0 0)]:=by kernel_rfl
theorem LV:dN Tryz.prog 159=some [(.slice none 0 0),(.slice none 0 0),(.int .i64 0),(.int .i64 0),(.slice none 0 0),(.int .i64 0),(.slice none 0 0),(.slice none 0 0),(.int .i64 0),(.int .i64 0),(.int .i64 0),(.int .i64 0),(.int .i64 0),(.slice none 0 0),(.int .i64 0),(.int .i64 0),(.int .i64 0),(.int .i64 0),(.int .i64 0),(.int .i64 0),(.int .i64 0),(.int .i64 0),(.slice none 0 0),(.int .i64 0),(.slice none 0 0),(.slice none 0 0),(.int .i64 0),(.slice none 0 0),(.slice none 0 0),(.slice none 0 0),(.int .i64 0),(.slice none 0 0),(.slice none 0 0),(.slice none 0 0),(.slice none 0 0),(.int .i64 0),(.slice none 0 0),(.int .i64 0),(.int .i64 0)]:=by kernel_rfl
theorem LW:dN Tryz.prog 176=some [(.int .i64 0),(.int .i64 0),(.int .i64 0),(.int .i64 0),(.int .i64 0),(.int .i64 0),(.string ⟨#[]⟩),(.int .i64 0)]:=by kernel_rfl
theorem LX:dN Tryz.prog 180=some [(.int .i64 0),(.int .i64 0)]:=by kernel_rfl
theorem LY:dN Tryz.prog 186=some [(.int .i64 0),(.int .i64 0),(.slice none 0 0)]:=by kernel_rfl
theorem LZ:dN Tryz.prog 198=some [(.int .i64 0),(.int .i64 0),(.int .i64 0)]:=by kernel_rfl
theorem L6:dN Tryz.prog 200=some [(.int .i64 0),(.int .i64 0),(.int .i64 0),(.int .i64 0)]:=by kernel_rfl
theorem L8:dN Tryz.prog 298=some [(.int .i64 0),(.int .i64 0),(.int .i64 0),(.int .i64 0)]:=by kernel_rfl
theorem L9:dN Tryz.prog 369=some [(.pointer none),(.int .i64 0)]:=by kernel_rfl
theorem Mc:dN Tryz.prog 370=some [(.pointer none),(.int .i64 0),(.pointer none),(.int .i64 0),(.pointer none),(.int .i64 0),(.pointer none),(.int .i64 0)]:=by kernel_rfl
theorem Md:dN Tryz.prog 409=some [(.int .i64 0),(.int .i64 0)]:=by kernel_rfl
theorem Me:dN Tryz.prog 410=some [(.int .i64 0),(.int .i64 0),(.int .i64 0),(.int .i64 0),(.int .i64 0),(.int .i64 0),(.int .i64 0),(.int .i64 0),(.int .i64 0),(.int .i64 0)]:=by kernel_rfl
theorem MB:jw Tryz.prog 3=some 8:=by kernel_rfl
theorem MC:jw Tryz.prog 5=some 1:=by kernel_rfl
theorem MF:jw Tryz.prog 9=some 16:=by kernel_rfl
theorem MG:jw Tryz.prog 46=some 24:=by kernel_rfl
theorem MH:jw Tryz.prog 65=some 808:=by kernel_rfl
theorem MI:jw Tryz.prog 86=some 64:=by kernel_rfl
theorem MJ:jw Tryz.prog 90=some 88:=by kernel_rfl
theorem MK:jw Tryz.prog 93=some 96:=by kernel_rfl
theorem ML:jw Tryz.prog 95=some 32:=by kernel_rfl
theorem MN:jw Tryz.prog 103=some 112:=by kernel_rfl
theorem MO:jw Tryz.prog 105=some 120:=by kernel_rfl
theorem MP:jw Tryz.prog 131=some 144:=by kernel_rfl
theorem MQ:jw Tryz.prog 176=some 72:=by kernel_rfl
theorem MR:jw Tryz.prog 180=some 16:=by kernel_rfl
theorem MS:jw Tryz.prog 186=some 40:=by kernel_rfl
theorem MV:jw Tryz.prog 198=some 24:=by kernel_rfl
theorem MW:jw Tryz.prog 200=some 32:=by kernel_rfl
theorem MX:BK Tryz.prog 4=some (.bool false):=by kernel_rfl
theorem MZ:BK Tryz.prog 160=some .nilFunc:=by kernel_rfl
theorem Na:Tryz.prog.stoodInHeld 86=false:=by kernel_rfl
theorem Nb:Tryz.prog.eqGuardType Tryz.prog.depth 86=false:=by kernel_rfl
theorem Nc:Tryz.prog.stoodInHeld 200=false:=by kernel_rfl
theorem Nh:Tryz.prog.eqGuardType Tryz.prog.depth 200=false:=by kernel_rfl
abbrev SC (c:Code):={s:fZ // iR Tryz.prog c=some s}
def SC.mk' {c:Code} {s:fZ} (h:iR Tryz.prog c=some s):SC c:=⟨s,h⟩
theorem SC.okA {f:FuncId} {c:Code} (x:SC c) (fn:Func) {res:List kW} {nt:Nat} (h1:Tryz.prog.funcs[f]? =some fn:=by kernel_rfl) (h2:(fn.name== "runtime.NumGoroutine")=false:=by kernel_rfl) (h3:fn.body=some c:=by kernel_rfl) (h4:xR Tryz.prog fn.results.toList=some res:=by kernel_rfl)
 (h5:fn.results.toList.length≤5:=by decide) (h6:fn.ntmps=nt:=by kernel_rfl) (h7:kD nt x.1=true:=by kernel_rfl) (h8:Tryz.prog.follows .mixedOrders=true:=by kernel_rfl):aA Tryz.prog f x.1 res nt:=⟨⟨fn,c,h1,h2,h3,x.2,h4,h5,h6⟩,h7,h8⟩
abbrev aB (fn:Func):Code:=fn.body.getD .skip
end Go.Eng
