/-
  Part of a proof: lemmas and definitions of this work.
  No condition.
-/
import Derived.Test.YtmfankbjapjjiaaGreatA04
import Derived.Test.YtmfankbjapjjiaaGreatProg
set_option linter.all false
set_option maxRecDepth 100000
set_option maxHeartbeats 8000000
namespace Go.Eng
open Go Go.Proofs
theorem Fv:bG Tryz.prog 3=some 1:=by kernel_rfl
theorem Fw:bG Tryz.prog 4=some 1:=by kernel_rfl
theorem Fx:bG Tryz.prog 5=some 1:=by kernel_rfl
theorem Fy:bG Tryz.prog 9=some 1:=by kernel_rfl
theorem Fz:bG Tryz.prog 22=some 1:=by kernel_rfl
theorem FB:bG Tryz.prog 26=some 8:=by kernel_rfl
theorem FC:bG Tryz.prog 27=some 1:=by kernel_rfl
theorem FD:bG Tryz.prog 28=some 1:=by kernel_rfl
theorem FE:bG Tryz.prog 29=some 1:=by kernel_rfl
theorem FH:bG Tryz.prog 31=some 2:=by kernel_rfl
theorem FI:bG Tryz.prog 33=some 3:=by kernel_rfl
theorem FJ:bG Tryz.prog 34=some 1:=by kernel_rfl
theorem FK:bG Tryz.prog 36=some 3:=by kernel_rfl
theorem FL:bG Tryz.prog 38=some 11:=by kernel_rfl
theorem FM:bG Tryz.prog 39=some 1:=by kernel_rfl
theorem FN:bG Tryz.prog 40=some 1:=by kernel_rfl
theorem FO:bG Tryz.prog 41=some 1:=by kernel_rfl
theorem FP:bG Tryz.prog 43=some 23:=by kernel_rfl
theorem FQ:bG Tryz.prog 45=some 1:=by kernel_rfl
theorem FR:bG Tryz.prog 46=some 1:=by kernel_rfl
theorem FT:bG Tryz.prog 48=some 8:=by kernel_rfl
theorem FU:bG Tryz.prog 49=some 1:=by kernel_rfl
theorem FV:bG Tryz.prog 51=some 5:=by kernel_rfl
theorem FW:bG Tryz.prog 53=some 4:=by kernel_rfl
theorem FX:bG Tryz.prog 54=some 1:=by kernel_rfl
theorem FY:bG Tryz.prog 55=some 1:=by kernel_rfl
theorem FZ:bG Tryz.prog 57=some 6:=by kernel_rfl
theorem F3:bG Tryz.prog 59=some 26:=by kernel_rfl
theorem F4:bG Tryz.prog 61=some 2:=by kernel_rfl
theorem F5:bG Tryz.prog 63=some 4:=by kernel_rfl
theorem F6:bG Tryz.prog 65=some 63:=by kernel_rfl
theorem F7:bG Tryz.prog 66=some 1:=by kernel_rfl
theorem F8:bG Tryz.prog 85=some 7:=by kernel_rfl
theorem F9:bG Tryz.prog 89=some 7:=by kernel_rfl
theorem Ga:bG Tryz.prog 90=some 1:=by kernel_rfl
theorem Gb:bG Tryz.prog 92=some 10:=by kernel_rfl
theorem Gc:bG Tryz.prog 94=some 4:=by kernel_rfl
theorem Gd:bG Tryz.prog 96=some 3:=by kernel_rfl
theorem Gf:bG Tryz.prog 97=some 1:=by kernel_rfl
theorem Gg:bG Tryz.prog 98=some 1:=by kernel_rfl
theorem Gh:bG Tryz.prog 100=some 2:=by kernel_rfl
theorem Gi:bG Tryz.prog 102=some 8:=by kernel_rfl
theorem Gj:bG Tryz.prog 104=some 9:=by kernel_rfl
theorem Gl:bG Tryz.prog 116=some 1:=by kernel_rfl
theorem Gm:bG Tryz.prog 118=some 12:=by kernel_rfl
theorem Gn:bG Tryz.prog 151=some 3:=by kernel_rfl
theorem Gp:bG Tryz.prog 164=some 3:=by kernel_rfl
theorem Gq:bG Tryz.prog 175=some 4:=by kernel_rfl
theorem Gr:bG Tryz.prog 197=some 1:=by kernel_rfl
theorem Gs:bG Tryz.prog 216=some 2:=by kernel_rfl
theorem Gt:bG Tryz.prog 234=some 8:=by kernel_rfl
theorem Gu:bG Tryz.prog 256=some 2:=by kernel_rfl
theorem Gv:bG Tryz.prog 287=some 4:=by kernel_rfl
theorem Gw:bG Tryz.prog 295=some 2:=by kernel_rfl
theorem Gx:dm Tryz.prog 3=some false:=by kernel_rfl
theorem Gy:dm Tryz.prog 4=some false:=by kernel_rfl
theorem Gz:dm Tryz.prog 5=some false:=by kernel_rfl
theorem GA:dm Tryz.prog 9=some false:=by kernel_rfl
theorem GD:dm Tryz.prog 22=some false:=by kernel_rfl
theorem GH:dm Tryz.prog 26=some true:=by kernel_rfl
theorem GI:dm Tryz.prog 27=some false:=by kernel_rfl
theorem GJ:dm Tryz.prog 28=some false:=by kernel_rfl
theorem GK:dm Tryz.prog 29=some false:=by kernel_rfl
theorem GL:dm Tryz.prog 31=some true:=by kernel_rfl
theorem GN:dm Tryz.prog 34=some false:=by kernel_rfl
theorem GQ:dm Tryz.prog 36=some true:=by kernel_rfl
theorem GR:dm Tryz.prog 38=some true:=by kernel_rfl
theorem GU:dm Tryz.prog 39=some false:=by kernel_rfl
theorem GV:dm Tryz.prog 40=some false:=by kernel_rfl
theorem GX:dm Tryz.prog 41=some false:=by kernel_rfl
theorem GY:dm Tryz.prog 43=some true:=by kernel_rfl
theorem GZ:dm Tryz.prog 45=some false:=by kernel_rfl
theorem G5:dm Tryz.prog 46=some false:=by kernel_rfl
theorem G6:dm Tryz.prog 48=some true:=by kernel_rfl
theorem G7:dm Tryz.prog 49=some false:=by kernel_rfl
theorem G8:dm Tryz.prog 51=some true:=by kernel_rfl
theorem G9:dm Tryz.prog 53=some true:=by kernel_rfl
theorem He:dm Tryz.prog 54=some false:=by kernel_rfl
theorem Hf:dm Tryz.prog 55=some false:=by kernel_rfl
theorem Hg:dm Tryz.prog 57=some true:=by kernel_rfl
theorem Hl:dm Tryz.prog 59=some true:=by kernel_rfl
theorem Ho:dm Tryz.prog 61=some true:=by kernel_rfl
theorem Hq:dm Tryz.prog 63=some true:=by kernel_rfl
theorem Hr:dm Tryz.prog 65=some true:=by kernel_rfl
theorem Ht:dm Tryz.prog 66=some false:=by kernel_rfl
theorem Hu:dm Tryz.prog 85=some true:=by kernel_rfl
theorem Hw:dm Tryz.prog 89=some true:=by kernel_rfl
theorem Hy:dm Tryz.prog 90=some false:=by kernel_rfl
theorem Hz:dm Tryz.prog 92=some true:=by kernel_rfl
theorem HV:dm Tryz.prog 94=some true:=by kernel_rfl
theorem HY:dm Tryz.prog 96=some true:=by kernel_rfl
theorem HZ:dm Tryz.prog 97=some false:=by kernel_rfl
theorem H6:dm Tryz.prog 98=some false:=by kernel_rfl
theorem H7:dm Tryz.prog 100=some true:=by kernel_rfl
theorem H8:dm Tryz.prog 102=some true:=by kernel_rfl
theorem H9:dm Tryz.prog 116=some false:=by kernel_rfl
theorem Ia:dm Tryz.prog 118=some true:=by kernel_rfl
theorem Ib:dm Tryz.prog 151=some true:=by kernel_rfl
theorem Ic:dm Tryz.prog 164=some true:=by kernel_rfl
theorem Ie:dm Tryz.prog 175=some true:=by kernel_rfl
theorem Ig:dm Tryz.prog 197=some false:=by kernel_rfl
theorem Ih:dm Tryz.prog 216=some true:=by kernel_rfl
theorem Ii:dm Tryz.prog 234=some true:=by kernel_rfl
theorem Ij:dm Tryz.prog 256=some true:=by kernel_rfl
theorem Ik:dm Tryz.prog 287=some true:=by kernel_rfl
theorem Il:dm Tryz.prog 295=some true:=by kernel_rfl
theorem Im:cZ Tryz.prog 3=some [(.int .i64 0)]:=by kernel_rfl
theorem Io:cZ Tryz.prog 5=some [(.int .u8 0)]:=by kernel_rfl
theorem Ip:cZ Tryz.prog 9=some [(.string ⟨#[]⟩)]:=by kernel_rfl
theorem Iq:cZ Tryz.prog 26=some [(.int .i64 0),(.int .i64 0),(.int .i64 0),(.int .i64 0),(.int .i64 0),(.int .i64 0),(.int .i64 0),(.int .i64 0)]:=by kernel_rfl
theorem Ir:cZ Tryz.prog 31=some [(.int .i64 0),(.slice none 0 0)]:=by kernel_rfl
theorem Iu:cZ Tryz.prog 36=some [(.int .i64 0),(.slice none 0 0),(.slice none 0 0)]:=by kernel_rfl
theorem Iw:cZ Tryz.prog 38=some [(.slice none 0 0),(.slice none 0 0),(.int .i64 0),(.int .i64 0),(.slice none 0 0),(.int .i64 0),(.slice none 0 0),(.slice none 0 0),(.int .i64 0),(.int .i64 0),(.int .i64 0)]:=by kernel_rfl
theorem Iy:cZ Tryz.prog 43=some [(.int .i64 0),(.int .i64 0),(.int .i64 0),(.int .i64 0),(.int .i64 0),(.int .i64 0),(.int .i64 0),(.int .i64 0),(.slice none 0 0),(.slice none 0 0),(.int .i64 0),(.int .i64 0),(.slice none 0 0),(.int .i64 0),(.slice none 0 0),(.slice none 0 0),(.int .i64 0),(.int .i64 0),(.int .i64 0),(.slice none 0 0),(.slice none 0 0),(.int .i64 0),(.slice none 0 0)]:=by kernel_rfl
theorem Iz:cZ Tryz.prog 46=some [(.slice none 0 0)]:=by kernel_rfl
theorem IA:cZ Tryz.prog 48=some [(.int .i64 0),(.int .i64 0),(.int .i64 0),(.int .i64 0),(.int .i64 0),(.int .i64 0),(.slice none 0 0),(.slice none 0 0)]:=by kernel_rfl
theorem IB:cZ Tryz.prog 51=some [(.slice none 0 0),(.int .i64 0),(.int .i64 0),(.int .i64 0),(.int .i64 0)]:=by kernel_rfl
theorem IC:cZ Tryz.prog 53=some [(.int .i64 0),(.int .i64 0),(.int .i64 0),(.int .i64 0)]:=by kernel_rfl
theorem IE:cZ Tryz.prog 57=some [(.slice none 0 0),(.int .i64 0),(.slice none 0 0),(.slice none 0 0),(.slice none 0 0),(.slice none 0 0)]:=by kernel_rfl
theorem IG:cZ Tryz.prog 59=some [(.int .i64 0),(.int .i64 0),(.slice none 0 0),(.int .i64 0),(.int .i64 0),(.int .i64 0),(.int .i64 0),(.int .i64 0),(.int .i64 0),(.int .i64 0),(.int .i64 0),(.slice none 0 0),(.int .i64 0),(.slice none 0 0),(.slice none 0 0),(.int .i64 0),(.slice none 0 0),(.slice none 0 0),(.slice none 0 0),(.int .i64 0),(.slice none 0 0),(.slice none 0 0),(.slice none 0 0),(.slice none 0 0),(.int .i64 0),(.slice none 0 0)]:=by kernel_rfl
theorem II:cZ Tryz.prog 61=some [(.int .i64 0),(.int .i64 0)]:=by kernel_rfl
theorem IJ:cZ Tryz.prog 63=some [(.int .i64 0),(.int .i64 0),(.int .i64 0),(.int .i64 0)]:=by kernel_rfl
theorem IK:cZ Tryz.prog 65=some [(.int .i64 0),(.int .i64 0),(.int .i64 0),(.int .i64 0),(.int .i64 0),(.int .i64 0),(.int .i64 0),(.slice none 0 0),(.slice none 0 0),(.int .i64 0),(.bool false),(.int .i64 0),(.int .i64 0),(.int .i64 0),(.slice none 0 0),(.int .i64 0),(.int .i64 0),(.int .i64 0),(.int .i64 0),(.int .i64 0),(.int .i64 0),(.int .i64 0),(.int .i64 0),(.int .i64 0),(.int .i64 0),(.slice none 0 0),(.int .i64 0),(.int .i64 0),(.int .i64 0),(.int .i64 0),(.int .i64 0),(.int .i64 0),(.int .i64 0),(.int .i64 0),(.slice none 0 0),(.int .i64 0),(.slice none 0 0),(.slice none 0 0),(.int .i64 0),(.slice none 0 0),(.slice none 0 0),(.slice none 0 0),(.int .i64 0),(.slice none 0 0),(.slice none 0 0),(.slice none 0 0),(.slice none 0 0),(.int .i64 0),(.slice none 0 0),(.int .i64 0),(.slice none 0 0),(.slice none 0 0),(.int .i64 0),(.int .i64 0),(.int .i64 0),(.int .i64 0),(.int .i64 0),(.int .i64 0),(.int .i64 0),(.int .i64 0),(.int .i64 0),(.slice none 0 0),(.slice none 0 0)]:=by kernel_rfl
theorem IL:cZ Tryz.prog 72=some [(.slice none 0 0),(.int .i64 0)]:=by kernel_rfl
theorem IQ:cZ Tryz.prog 85=some [(.int .i64 0),(.int .i64 0),(.int .i64 0),(.int .i64 0),(.int .i64 0),(.int .i64 0),(.string ⟨#[]⟩)]:=by kernel_rfl
theorem IU:cZ Tryz.prog 89=some [(.int .i64 0),(.int .i64 0),(.slice none 0 0),(.slice none 0 0),(.int .i64 0),(.int .i64 0),(.int .i64 0)]:=by kernel_rfl
theorem IV:cZ Tryz.prog 92=some [(.int .i64 0),(.int .i64 0),(.int .i64 0),(.int .i64 0),(.int .i64 0),(.int .i64 0),(.int .i64 0),(.slice none 0 0),(.int .i64 0),(.int .i64 0)]:=by kernel_rfl
theorem IW:cZ Tryz.prog 94=some [(.int .i64 0),(.int .i64 0),(.int .i64 0),(.int .i64 0)]:=by kernel_rfl
theorem IX:cZ Tryz.prog 96=some [(.slice none 0 0),(.int .i64 0),(.int .i64 0)]:=by kernel_rfl
theorem IY:cZ Tryz.prog 100=some [(.slice none 0 0),(.slice none 0 0)]:=by kernel_rfl
theorem IZ:cZ Tryz.prog 102=some [(.bool false),(.int .i64 0),(.int .i64 0),(.slice none 0 0),(.int .i64 0),(.int .i64 0),(.slice none 0 0),(.slice none 0 0)]:=by kernel_rfl
theorem I4:cZ Tryz.prog 104=some [(.int .i64 0),(.bool false),(.int .i64 0),(.int .i64 0),(.slice none 0 0),(.int .i64 0),(.int .i64 0),(.slice none 0 0),(.slice none 0 0)]:=by kernel_rfl
theorem I5:cZ Tryz.prog 118=some [(.int .i64 0),(.int .i64 0),(.int .i64 0),(.int .i64 0),(.int .i64 0),(.int .i64 0),(.int .i64 0),(.int .i64 0),(.int .i64 0),(.slice none 0 0),(.slice none 0 0),(.slice none 0 0)]:=by kernel_rfl
theorem I6:cZ Tryz.prog 151=some [(.int .i64 0),(.int .i64 0),(.int .i64 0)]:=by kernel_rfl
theorem I7:cZ Tryz.prog 164=some [(.int .i64 0),(.int .i64 0),(.slice none 0 0)]:=by kernel_rfl
theorem I8:cZ Tryz.prog 175=some [(.int .i64 0),(.int .i64 0),(.int .i64 0),(.int .i64 0)]:=by kernel_rfl
theorem I9:cZ Tryz.prog 216=some [(.pointer none),(.int .i64 0)]:=by kernel_rfl
theorem Ja:cZ Tryz.prog 217=some [(.pointer none),(.int .i64 0),(.pointer none),(.int .i64 0),(.pointer none),(.int .i64 0),(.pointer none),(.int .i64 0)]:=by kernel_rfl
theorem Jb:cZ Tryz.prog 234=some [(.int .i64 0),(.int .i64 0),(.int .i64 0),(.int .i64 0),(.int .i64 0),(.int .i64 0),(.string ⟨#[]⟩),(.int .i64 0)]:=by kernel_rfl
theorem Jc:cZ Tryz.prog 256=some [(.int .i64 0),(.int .i64 0)]:=by kernel_rfl
theorem Jd:cZ Tryz.prog 257=some [(.int .i64 0),(.int .i64 0),(.int .i64 0),(.int .i64 0),(.int .i64 0),(.int .i64 0),(.int .i64 0),(.int .i64 0),(.int .i64 0),(.int .i64 0)]:=by kernel_rfl
theorem Je:cZ Tryz.prog 287=some [(.int .i64 0),(.int .i64 0),(.int .i64 0),(.int .i64 0)]:=by kernel_rfl
theorem Jf:cZ Tryz.prog 295=some [(.int .i64 0),(.int .i64 0)]:=by kernel_rfl
theorem Jg:iT Tryz.prog 3=some 8:=by kernel_rfl
theorem Jh:iT Tryz.prog 5=some 1:=by kernel_rfl
theorem Ji:iT Tryz.prog 9=some 16:=by kernel_rfl
theorem Jj:iT Tryz.prog 46=some 24:=by kernel_rfl
theorem Jk:iT Tryz.prog 65=some 808:=by kernel_rfl
theorem Jl:iT Tryz.prog 85=some 64:=by kernel_rfl
theorem Jm:iT Tryz.prog 89=some 88:=by kernel_rfl
theorem Jo:iT Tryz.prog 92=some 96:=by kernel_rfl
theorem Jp:iT Tryz.prog 94=some 32:=by kernel_rfl
theorem Jq:iT Tryz.prog 102=some 112:=by kernel_rfl
theorem Jr:iT Tryz.prog 104=some 120:=by kernel_rfl
theorem Js:iT Tryz.prog 118=some 144:=by kernel_rfl
theorem Jt:iT Tryz.prog 151=some 24:=by kernel_rfl
theorem Ju:iT Tryz.prog 164=some 40:=by kernel_rfl
theorem Jv:iT Tryz.prog 175=some 32:=by kernel_rfl
theorem Jw:iT Tryz.prog 234=some 72:=by kernel_rfl
theorem Jy:iT Tryz.prog 295=some 16:=by kernel_rfl
theorem Jz:tV Tryz.prog 4=some (.bool false):=by kernel_rfl
theorem JA:Tryz.prog.stoodInHeld 85=false:=by kernel_rfl
theorem JB:Tryz.prog.eqGuardType Tryz.prog.depth 85=false:=by kernel_rfl
theorem JC:Tryz.prog.stoodInHeld 175=false:=by kernel_rfl
theorem JD:Tryz.prog.eqGuardType Tryz.prog.depth 175=false:=by kernel_rfl
abbrev SC (c:Code):={s:eG // fM Tryz.prog c=some s}
def SC.mk' {c:Code} {s:eG} (h:fM Tryz.prog c=some s:=by simp only [go_sem];rfl):SC c:=⟨s,h⟩
abbrev aB (fn:Func):Code:=fn.body.getD .skip
theorem SC.aC {f:FuncId} {fn:Func} (x:SC (aB fn)) {res:List iE} {nt:Nat} (h1:Tryz.prog.funcs[f]? =some fn:=by kernel_rfl) (h2:(fn.name== "runtime.NumGoroutine")=false:=by kernel_rfl) (h3:fn.body=some (aB fn):=by kernel_rfl) (h4:vK Tryz.prog fn.results.toList=some res:=by kernel_rfl)
 (h5:fn.results.toList.length<=5:=by decide) (h6:fn.ntmps=nt:=by kernel_rfl) (h7:iV nt x.1=true:=by kernel_rfl) (h8:Tryz.prog.follows .mixedOrders=true:=by kernel_rfl):aA Tryz.prog f x.1 res nt:=⟨⟨fn,aB fn,h1,h2,h3,x.2,h4,h5,h6⟩,h7,h8⟩
end Go.Eng
