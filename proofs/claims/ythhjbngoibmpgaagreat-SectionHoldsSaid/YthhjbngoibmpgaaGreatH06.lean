/-
  Part of a proof: lemmas and definitions of this work.
  No condition.
-/
import Derived.Test.YthhjbngoibmpgaaGreatH04
import Derived.Test.YthhjbngoibmpgaaGreatProg
set_option linter.all false
set_option maxRecDepth 100000
set_option maxHeartbeats 8000000
namespace Go.Eng
open Go Go.Proofs
theorem WW:aU Tryz.prog 3=some 1:=by kernel_rfl
theorem WX:aU Tryz.prog 4=some 1:=by kernel_rfl
theorem WY:aU Tryz.prog 5=some 1:=by kernel_rfl
theorem WZ:aU Tryz.prog 9=some 1:=by kernel_rfl
theorem W9:aU Tryz.prog 22=some 1:=by kernel_rfl
theorem Xa:aU Tryz.prog 26=some 8:=by kernel_rfl
theorem Xb:aU Tryz.prog 27=some 1:=by kernel_rfl
theorem Xc:aU Tryz.prog 28=some 1:=by kernel_rfl
theorem Xd:aU Tryz.prog 29=some 1:=by kernel_rfl
theorem Xe:aU Tryz.prog 31=some 2:=by kernel_rfl
theorem Xf:aU Tryz.prog 33=some 3:=by kernel_rfl
theorem Xg:aU Tryz.prog 34=some 1:=by kernel_rfl
theorem Xh:aU Tryz.prog 36=some 3:=by kernel_rfl
theorem Xi:aU Tryz.prog 38=some 11:=by kernel_rfl
theorem Xj:aU Tryz.prog 50=some 5:=by kernel_rfl
theorem Xk:aU Tryz.prog 52=some 4:=by kernel_rfl
theorem Xl:aU Tryz.prog 53=some 1:=by kernel_rfl
theorem Xm:aU Tryz.prog 54=some 1:=by kernel_rfl
theorem Xn:aU Tryz.prog 56=some 6:=by kernel_rfl
theorem Xo:aU Tryz.prog 58=some 26:=by kernel_rfl
theorem Xp:aU Tryz.prog 77=some 4:=by kernel_rfl
theorem Xq:aU Tryz.prog 80=some 3:=by kernel_rfl
theorem Xr:aU Tryz.prog 81=some 1:=by kernel_rfl
theorem Xt:aU Tryz.prog 82=some 1:=by kernel_rfl
theorem Xu:aU Tryz.prog 84=some 2:=by kernel_rfl
theorem Xv:aU Tryz.prog 86=some 8:=by kernel_rfl
theorem Xw:aU Tryz.prog 88=some 9:=by kernel_rfl
theorem Xx:aU Tryz.prog 91=some 1:=by kernel_rfl
theorem Xy:aU Tryz.prog 93=some 8:=by kernel_rfl
theorem Xz:aU Tryz.prog 96=some 2:=by kernel_rfl
theorem XA:aU Tryz.prog 98=some 4:=by kernel_rfl
theorem XB:aU Tryz.prog 123=some 7:=by kernel_rfl
theorem XC:aU Tryz.prog 149=some 3:=by kernel_rfl
theorem XD:aU Tryz.prog 156=some 1:=by kernel_rfl
theorem XE:aU Tryz.prog 196=some 12:=by kernel_rfl
theorem XF:aU Tryz.prog 201=some 4:=by kernel_rfl
theorem XG:aU Tryz.prog 239=some 8:=by kernel_rfl
theorem XH:aU Tryz.prog 253=some 2:=by kernel_rfl
theorem XI:bY Tryz.prog 3=some false:=by kernel_rfl
theorem XJ:bY Tryz.prog 4=some false:=by kernel_rfl
theorem XK:bY Tryz.prog 5=some false:=by kernel_rfl
theorem XL:bY Tryz.prog 9=some false:=by kernel_rfl
theorem XM:bY Tryz.prog 22=some false:=by kernel_rfl
theorem XO:bY Tryz.prog 26=some true:=by kernel_rfl
theorem XP:bY Tryz.prog 27=some false:=by kernel_rfl
theorem XQ:bY Tryz.prog 28=some false:=by kernel_rfl
theorem XR:bY Tryz.prog 29=some false:=by kernel_rfl
theorem XT:bY Tryz.prog 31=some true:=by kernel_rfl
theorem XU:bY Tryz.prog 34=some false:=by kernel_rfl
theorem XV:bY Tryz.prog 36=some true:=by kernel_rfl
theorem XW:bY Tryz.prog 38=some true:=by kernel_rfl
theorem XY:bY Tryz.prog 50=some true:=by kernel_rfl
theorem XZ:bY Tryz.prog 52=some true:=by kernel_rfl
theorem X0:bY Tryz.prog 53=some false:=by kernel_rfl
theorem X3:bY Tryz.prog 54=some false:=by kernel_rfl
theorem X4:bY Tryz.prog 56=some true:=by kernel_rfl
theorem X5:bY Tryz.prog 58=some true:=by kernel_rfl
theorem X6:bY Tryz.prog 77=some true:=by kernel_rfl
theorem X7:bY Tryz.prog 80=some true:=by kernel_rfl
theorem X8:bY Tryz.prog 81=some false:=by kernel_rfl
theorem X9:bY Tryz.prog 82=some false:=by kernel_rfl
theorem Ya:bY Tryz.prog 84=some true:=by kernel_rfl
theorem Yb:bY Tryz.prog 86=some true:=by kernel_rfl
theorem Yc:bY Tryz.prog 91=some false:=by kernel_rfl
theorem Yd:bY Tryz.prog 96=some true:=by kernel_rfl
theorem Ye:bY Tryz.prog 98=some true:=by kernel_rfl
theorem Yf:bY Tryz.prog 123=some true:=by kernel_rfl
theorem Yg:bY Tryz.prog 149=some true:=by kernel_rfl
theorem Yh:bY Tryz.prog 156=some false:=by kernel_rfl
theorem Yi:bY Tryz.prog 196=some true:=by kernel_rfl
theorem Yj:bY Tryz.prog 201=some true:=by kernel_rfl
theorem Yk:bY Tryz.prog 239=some true:=by kernel_rfl
theorem Yl:bY Tryz.prog 253=some true:=by kernel_rfl
theorem Ym:cO Tryz.prog 3=some [(.int .i64 0)]:=by kernel_rfl
theorem Yn:cO Tryz.prog 4=some [(.bool false)]:=by kernel_rfl
theorem Yo:cO Tryz.prog 5=some [(.int .u8 0)]:=by kernel_rfl
theorem Yp:cO Tryz.prog 26=some [(.int .i64 0),(.int .i64 0),(.int .i64 0),(.int .i64 0),(.int .i64 0),(.int .i64 0),(.int .i64 0),(.int .i64 0)]:=by kernel_rfl
theorem Yq:cO Tryz.prog 31=some [(.int .i64 0),(.slice none 0 0)]:=by kernel_rfl
theorem Yr:cO Tryz.prog 36=some [(.int .i64 0),(.slice none 0 0),(.slice none 0 0)]:=by kernel_rfl
theorem Yt:cO Tryz.prog 38=some [(.slice none 0 0),(.slice none 0 0),(.int .i64 0),(.int .i64 0),(.slice none 0 0),(.int .i64 0),(.slice none 0 0),(.slice none 0 0),(.int .i64 0),(.int .i64 0),(.int .i64 0)]:=by kernel_rfl
theorem Yu:cO Tryz.prog 50=some [(.slice none 0 0),(.int .i64 0),(.int .i64 0),(.int .i64 0),(.int .i64 0)]:=by kernel_rfl
theorem Yv:cO Tryz.prog 52=some [(.int .i64 0),(.int .i64 0),(.int .i64 0),(.int .i64 0)]:=by kernel_rfl
theorem Yw:cO Tryz.prog 56=some [(.slice none 0 0),(.int .i64 0),(.slice none 0 0),(.slice none 0 0),(.slice none 0 0),(.slice none 0 0)]:=by kernel_rfl
theorem Yx:cO Tryz.prog 58=some [(.int .i64 0),(.int .i64 0),(.slice none 0 0),(.int .i64 0),(.int .i64 0),(.int .i64 0),(.int .i64 0),(.int .i64 0),(.int .i64 0),(.int .i64 0),(.int .i64 0),(.slice none 0 0),(.int .i64 0),(.slice none 0 0),(.slice none 0 0),(.int .i64 0),(.slice none 0 0),(.slice none 0 0),(.slice none 0 0),(.int .i64 0),(.slice none 0 0),(.slice none 0 0),(.slice none 0 0),(.slice none 0 0),(.int .i64 0),(.slice none 0 0)]:=by kernel_rfl
theorem Yy:cO Tryz.prog 77=some [(.int .i64 0),(.int .i64 0),(.int .i64 0),(.int .i64 0)]:=by kernel_rfl
theorem Yz:cO Tryz.prog 80=some [(.slice none 0 0),(.int .i64 0),(.int .i64 0)]:=by kernel_rfl
theorem YA:cO Tryz.prog 84=some [(.slice none 0 0),(.slice none 0 0)]:=by kernel_rfl
theorem YB:cO Tryz.prog 86=some [(.bool false),(.int .i64 0),(.int .i64 0),(.slice none 0 0),(.int .i64 0),(.int .i64 0),(.slice none 0 0),(.slice none 0 0)]:=by kernel_rfl
theorem YC:cO Tryz.prog 88=some [(.int .i64 0),(.bool false),(.int .i64 0),(.int .i64 0),(.slice none 0 0),(.int .i64 0),(.int .i64 0),(.slice none 0 0),(.slice none 0 0)]:=by kernel_rfl
theorem YD:cO Tryz.prog 96=some [(.int .i64 0),(.int .i64 0)]:=by kernel_rfl
theorem YE:cO Tryz.prog 98=some [(.int .i64 0),(.int .i64 0),(.int .i64 0),(.int .i64 0)]:=by kernel_rfl
theorem YF:cO Tryz.prog 123=some [(.int .i64 0),(.int .i64 0),(.int .i64 0),(.int .i64 0),(.int .i64 0),(.int .i64 0),(.string ⟨#[]⟩)]:=by kernel_rfl
theorem YG:cO Tryz.prog 125=some [(.slice none 0 0),(.int .i64 0)]:=by kernel_rfl
theorem YH:cO Tryz.prog 149=some [(.int .i64 0),(.int .i64 0),(.int .i64 0)]:=by kernel_rfl
theorem YI:cO Tryz.prog 158=some [(.slice none 0 0),(.slice none 0 0),(.int .i64 0),(.int .i64 0),(.slice none 0 0),(.int .i64 0),(.slice none 0 0),(.slice none 0 0),(.int .i64 0),(.int .i64 0),(.int .i64 0),(.int .i64 0),(.int .i64 0),(.slice none 0 0),(.int .i64 0),(.int .i64 0),(.int .i64 0),(.int .i64 0),(.int .i64 0),(.int .i64 0),(.int .i64 0),(.int .i64 0),(.slice none 0 0),(.int .i64 0),(.slice none 0 0),(.slice none 0 0),(.int .i64 0),(.slice none 0 0),(.slice none 0 0),(.slice none 0 0),(.int .i64 0),(.slice none 0 0),(.slice none 0 0),(.slice none 0 0),(.slice none 0 0),(.int .i64 0),(.slice none 0 0),(.int .i64 0),(.int .i64 0)]:=by kernel_rfl
theorem YJ:cO Tryz.prog 196=some [(.int .i64 0),(.int .i64 0),(.int .i64 0),(.int .i64 0),(.int .i64 0),(.int .i64 0),(.int .i64 0),(.int .i64 0),(.int .i64 0),(.slice none 0 0),(.slice none 0 0),(.slice none 0 0)]:=by kernel_rfl
theorem YK:cO Tryz.prog 239=some [(.int .i64 0),(.int .i64 0),(.int .i64 0),(.int .i64 0),(.int .i64 0),(.int .i64 0),(.string ⟨#[]⟩),(.int .i64 0)]:=by kernel_rfl
theorem YL:cO Tryz.prog 253=some [(.int .i64 0),(.int .i64 0)]:=by kernel_rfl
theorem YM:cO Tryz.prog 327=some [(.int .i64 0),(.int .i64 0),(.int .i64 0),(.int .i64 0)]:=by kernel_rfl
theorem YN:jT Tryz.prog 3=some 8:=by kernel_rfl
theorem YO:jT Tryz.prog 5=some 1:=by kernel_rfl
theorem YP:jT Tryz.prog 77=some 32:=by kernel_rfl
theorem YQ:jT Tryz.prog 86=some 112:=by kernel_rfl
theorem YR:jT Tryz.prog 88=some 120:=by kernel_rfl
theorem YS:jT Tryz.prog 123=some 64:=by kernel_rfl
theorem YT:jT Tryz.prog 149=some 24:=by kernel_rfl
theorem YU:jT Tryz.prog 239=some 72:=by kernel_rfl
theorem YV:jT Tryz.prog 253=some 16:=by kernel_rfl
theorem YW:uD Tryz.prog 4=some (.bool false):=by kernel_rfl
theorem YX:uD Tryz.prog 159=some .nilFunc:=by kernel_rfl
theorem YZ:Tryz.prog.stoodInHeld 77=false:=by kernel_rfl
theorem Y0:Tryz.prog.eqGuardType Tryz.prog.depth 77=false:=by kernel_rfl
theorem Y1:Tryz.prog.stoodInHeld 123=false:=by kernel_rfl
theorem Y2:Tryz.prog.eqGuardType Tryz.prog.depth 123=false:=by kernel_rfl
theorem Y3:Tryz.prog.stoodInHeld 239=false:=by kernel_rfl
theorem Y4:Tryz.prog.eqGuardType Tryz.prog.depth 239=false:=by kernel_rfl
theorem Y5:Tryz.prog.stoodInHeld 253=false:=by kernel_rfl
theorem Y6:Tryz.prog.eqGuardType Tryz.prog.depth 253=false:=by kernel_rfl
abbrev SC (c:Code):={s:cK // fG Tryz.prog c=some s}
def SC.mk' {c:Code} {s:cK} (h:fG Tryz.prog c=some s:=by simp only [go_sem];rfl):SC c:=⟨s,h⟩
abbrev aJ (fn:Func):Code:=fn.body.getD .skip
theorem SC.aK {f:FuncId} {fn:Func} (x:SC (aJ fn)) {res:List gY} {nt:Nat} (h1:Tryz.prog.funcs[f]? =some fn:=by kernel_rfl) (h2:(fn.name== "runtime.NumGoroutine")=false:=by kernel_rfl) (h3:fn.body=some (aJ fn):=by kernel_rfl) (h4:qp Tryz.prog fn.results.toList=some res:=by kernel_rfl)
 (h5:fn.results.toList.length<=5:=by decide) (h6:fn.ntmps=nt:=by kernel_rfl) (h7:iH nt x.1=true:=by kernel_rfl) (h8:Tryz.prog.follows .mixedOrders=true:=by kernel_rfl):aF Tryz.prog f x.1 res nt:=⟨⟨fn,aJ fn,h1,h2,h3,x.2,h4,h5,h6⟩,h7,h8⟩
end Go.Eng
