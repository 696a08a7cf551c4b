/-
  Part of a proof: lemmas and definitions of this work.
  No condition.
-/
import Derived.Test.YtpfhpakpcjfopaaGreatI11
import Derived.Test.YtpfhpakpcjfopaaGreatProg
import Derived.WalkKit
import Derived.Laws.LoneSync
import Derived.RegionCalls
set_option linter.all false
set_option maxRecDepth 100000
set_option maxHeartbeats 8000000
namespace Go.M
open Go Go.Proofs
open Go.Eng (SOp SOper SCode sizeP aggP zerosOf bytesP zeroVal stripCode stripOps stripOper strip stripParts kindsOf kinds2)
theorem qE:sizeP Tryz.prog 3=some 1:=by kernel_rfl
theorem sz4:sizeP Tryz.prog 4=some 1:=by kernel_rfl
theorem qF:sizeP Tryz.prog 5=some 1:=by kernel_rfl
theorem sz9:sizeP Tryz.prog 9=some 1:=by kernel_rfl
theorem an2:sizeP Tryz.prog 22=some 1:=by kernel_rfl
theorem an3:sizeP Tryz.prog 27=some 8:=by kernel_rfl
theorem an4:sizeP Tryz.prog 28=some 1:=by kernel_rfl
theorem an5:sizeP Tryz.prog 29=some 1:=by kernel_rfl
theorem an6:sizeP Tryz.prog 30=some 1:=by kernel_rfl
theorem an7:sizeP Tryz.prog 32=some 2:=by kernel_rfl
theorem an8:sizeP Tryz.prog 34=some 3:=by kernel_rfl
theorem an9:sizeP Tryz.prog 35=some 1:=by kernel_rfl
theorem aoa:sizeP Tryz.prog 37=some 3:=by kernel_rfl
theorem aob:sizeP Tryz.prog 39=some 11:=by kernel_rfl
theorem aoc:sizeP Tryz.prog 40=some 1:=by kernel_rfl
theorem aod:sizeP Tryz.prog 41=some 1:=by kernel_rfl
theorem aoe:sizeP Tryz.prog 42=some 1:=by kernel_rfl
theorem aof:sizeP Tryz.prog 44=some 23:=by kernel_rfl
theorem qG:sizeP Tryz.prog 47=some 4:=by kernel_rfl
theorem aog:sizeP Tryz.prog 48=some 1:=by kernel_rfl
theorem aoh:sizeP Tryz.prog 51=some 1:=by kernel_rfl
theorem aoi:sizeP Tryz.prog 53=some 1:=by kernel_rfl
theorem aoj:sizeP Tryz.prog 55=some 8:=by kernel_rfl
theorem aok:sizeP Tryz.prog 57=some 1:=by kernel_rfl
theorem aol:sizeP Tryz.prog 62=some 1:=by kernel_rfl
theorem aom:sizeP Tryz.prog 64=some 10:=by kernel_rfl
theorem aon:sizeP Tryz.prog 66=some 4:=by kernel_rfl
theorem aoo:sizeP Tryz.prog 69=some 3:=by kernel_rfl
theorem aop:sizeP Tryz.prog 70=some 1:=by kernel_rfl
theorem aoq:sizeP Tryz.prog 71=some 1:=by kernel_rfl
theorem aor:sizeP Tryz.prog 73=some 2:=by kernel_rfl
theorem aos:sizeP Tryz.prog 75=some 8:=by kernel_rfl
theorem aot:sizeP Tryz.prog 77=some 9:=by kernel_rfl
theorem aou:sizeP Tryz.prog 82=some 7:=by kernel_rfl
theorem aov:sizeP Tryz.prog 98=some 5:=by kernel_rfl
theorem aow:sizeP Tryz.prog 100=some 4:=by kernel_rfl
theorem aox:sizeP Tryz.prog 101=some 1:=by kernel_rfl
theorem aoy:sizeP Tryz.prog 102=some 1:=by kernel_rfl
theorem aoz:sizeP Tryz.prog 104=some 6:=by kernel_rfl
theorem aoA:sizeP Tryz.prog 106=some 26:=by kernel_rfl
theorem aoB:sizeP Tryz.prog 108=some 2:=by kernel_rfl
theorem aoC:sizeP Tryz.prog 110=some 63:=by kernel_rfl
theorem aoD:sizeP Tryz.prog 117=some 3:=by kernel_rfl
theorem aoE:sizeP Tryz.prog 147=some 4:=by kernel_rfl
theorem aoF:sizeP Tryz.prog 164=some 7:=by kernel_rfl
theorem aoG:sizeP Tryz.prog 166=some 8:=by kernel_rfl
theorem aoH:sizeP Tryz.prog 168=some 2:=by kernel_rfl
theorem qH:sizeP Tryz.prog 172=some 1:=by kernel_rfl
theorem qI:sizeP Tryz.prog 173=some 2:=by kernel_rfl
theorem aoI:sizeP Tryz.prog 184=some 1:=by kernel_rfl
theorem qJ:sizeP Tryz.prog 219=some 2:=by kernel_rfl
theorem qK:aggP Tryz.prog 3=some false:=by kernel_rfl
theorem ag4:aggP Tryz.prog 4=some false:=by kernel_rfl
theorem qL:aggP Tryz.prog 5=some false:=by kernel_rfl
theorem ag9:aggP Tryz.prog 9=some false:=by kernel_rfl
theorem aoL:aggP Tryz.prog 22=some false:=by kernel_rfl
theorem aoM:aggP Tryz.prog 27=some true:=by kernel_rfl
theorem aoN:aggP Tryz.prog 28=some false:=by kernel_rfl
theorem aoO:aggP Tryz.prog 29=some false:=by kernel_rfl
theorem aoP:aggP Tryz.prog 30=some false:=by kernel_rfl
theorem aoQ:aggP Tryz.prog 32=some true:=by kernel_rfl
theorem aoR:aggP Tryz.prog 35=some false:=by kernel_rfl
theorem aoS:aggP Tryz.prog 37=some true:=by kernel_rfl
theorem aoT:aggP Tryz.prog 39=some true:=by kernel_rfl
theorem aoU:aggP Tryz.prog 40=some false:=by kernel_rfl
theorem aoV:aggP Tryz.prog 41=some false:=by kernel_rfl
theorem aoW:aggP Tryz.prog 42=some false:=by kernel_rfl
theorem aoX:aggP Tryz.prog 44=some true:=by kernel_rfl
theorem qM:aggP Tryz.prog 47=some true:=by kernel_rfl
theorem aoY:aggP Tryz.prog 48=some false:=by kernel_rfl
theorem aoZ:aggP Tryz.prog 51=some false:=by kernel_rfl
theorem ao0:aggP Tryz.prog 53=some false:=by kernel_rfl
theorem ao1:aggP Tryz.prog 55=some true:=by kernel_rfl
theorem ao2:aggP Tryz.prog 57=some false:=by kernel_rfl
theorem ao3:aggP Tryz.prog 62=some false:=by kernel_rfl
theorem ao4:aggP Tryz.prog 64=some true:=by kernel_rfl
theorem ao5:aggP Tryz.prog 66=some true:=by kernel_rfl
theorem ao6:aggP Tryz.prog 69=some true:=by kernel_rfl
theorem ao7:aggP Tryz.prog 70=some false:=by kernel_rfl
theorem ao8:aggP Tryz.prog 71=some false:=by kernel_rfl
theorem ao9:aggP Tryz.prog 73=some true:=by kernel_rfl
theorem apa:aggP Tryz.prog 75=some true:=by kernel_rfl
theorem apb:aggP Tryz.prog 82=some true:=by kernel_rfl
theorem apc:aggP Tryz.prog 98=some true:=by kernel_rfl
theorem apd:aggP Tryz.prog 100=some true:=by kernel_rfl
theorem ape:aggP Tryz.prog 101=some false:=by kernel_rfl
theorem apf:aggP Tryz.prog 102=some false:=by kernel_rfl
theorem apg:aggP Tryz.prog 104=some true:=by kernel_rfl
theorem aph:aggP Tryz.prog 106=some true:=by kernel_rfl
theorem apj:aggP Tryz.prog 108=some true:=by kernel_rfl
theorem apk:aggP Tryz.prog 110=some true:=by kernel_rfl
theorem apl:aggP Tryz.prog 117=some true:=by kernel_rfl
theorem apm:aggP Tryz.prog 147=some true:=by kernel_rfl
theorem apn:aggP Tryz.prog 164=some true:=by kernel_rfl
theorem apo:aggP Tryz.prog 166=some true:=by kernel_rfl
theorem apq:aggP Tryz.prog 168=some true:=by kernel_rfl
theorem qN:aggP Tryz.prog 172=some false:=by kernel_rfl
theorem qO:aggP Tryz.prog 173=some true:=by kernel_rfl
theorem apr:aggP Tryz.prog 184=some false:=by kernel_rfl
theorem qP:aggP Tryz.prog 219=some true:=by kernel_rfl
theorem zr3:zerosOf Tryz.prog 3=some [(.int .i64 0)]:=by kernel_rfl
theorem zr4:zerosOf Tryz.prog 4=some [(.bool false)]:=by kernel_rfl
theorem qQ:zerosOf Tryz.prog 5=some [(.int .u8 0)]:=by kernel_rfl
theorem zr9:zerosOf Tryz.prog 9=some [(.string ⟨#[]⟩)]:=by kernel_rfl
theorem apv:zerosOf Tryz.prog 27=some [(.int .i64 0),(.int .i64 0),(.int .i64 0),(.int .i64 0),(.int .i64 0),(.int .i64 0),(.int .i64 0),(.int .i64 0)]:=by kernel_rfl
theorem apw:zerosOf Tryz.prog 32=some [(.int .i64 0),(.slice none 0 0)]:=by kernel_rfl
theorem apx:zerosOf Tryz.prog 37=some [(.int .i64 0),(.slice none 0 0),(.slice none 0 0)]:=by kernel_rfl
theorem apy:zerosOf Tryz.prog 39=some [(.slice none 0 0),(.slice none 0 0),(.int .i64 0),(.int .i64 0),(.slice none 0 0),(.int .i64 0),(.slice none 0 0),(.slice none 0 0),(.int .i64 0),(.int .i64 0),(.int .i64 0)]:=by kernel_rfl
theorem apz:zerosOf Tryz.prog 44=some [(.int .i64 0),(.int .i64 0),(.int .i64 0),(.int .i64 0),(.int .i64 0),(.int .i64 0),(.int .i64 0),(.int .i64 0),(.slice none 0 0),(.slice none 0 0),(.int .i64 0),(.int .i64 0),(.slice none 0 0),(.int .i64 0),(.slice none 0 0),(.slice none 0 0),(.int .i64 0),(.int .i64 0),(.int .i64 0),(.slice none 0 0),(.slice none 0 0),(.int .i64 0),(.slice none 0 0)]:=by kernel_rfl
theorem qR:zerosOf Tryz.prog 47=some [(.int .i64 0),(.int .i64 0),(.int .i64 0),(.int .i64 0)]:=by kernel_rfl
theorem apA:zerosOf Tryz.prog 51=some [(.slice none 0 0)]:=by kernel_rfl
theorem apB:zerosOf Tryz.prog 55=some [(.int .i64 0),(.int .i64 0),(.int .i64 0),(.int .i64 0),(.int .i64 0),(.int .i64 0),(.slice none 0 0),(.slice none 0 0)]:=by kernel_rfl
theorem apC:zerosOf Tryz.prog 64=some [(.int .i64 0),(.int .i64 0),(.int .i64 0),(.int .i64 0),(.int .i64 0),(.int .i64 0),(.int .i64 0),(.slice none 0 0),(.int .i64 0),(.int .i64 0)]:=by kernel_rfl
theorem apD:zerosOf Tryz.prog 66=some [(.int .i64 0),(.int .i64 0),(.int .i64 0),(.int .i64 0)]:=by kernel_rfl
theorem apE:zerosOf Tryz.prog 69=some [(.slice none 0 0),(.int .i64 0),(.int .i64 0)]:=by kernel_rfl
theorem apF:zerosOf Tryz.prog 73=some [(.slice none 0 0),(.slice none 0 0)]:=by kernel_rfl
theorem apG:zerosOf Tryz.prog 75=some [(.bool false),(.int .i64 0),(.int .i64 0),(.slice none 0 0),(.int .i64 0),(.int .i64 0),(.slice none 0 0),(.slice none 0 0)]:=by kernel_rfl
theorem apH:zerosOf Tryz.prog 77=some [(.int .i64 0),(.bool false),(.int .i64 0),(.int .i64 0),(.slice none 0 0),(.int .i64 0),(.int .i64 0),(.slice none 0 0),(.slice none 0 0)]:=by kernel_rfl
theorem apI:zerosOf Tryz.prog 82=some [(.int .i64 0),(.int .i64 0),(.slice none 0 0),(.slice none 0 0),(.int .i64 0),(.int .i64 0),(.int .i64 0)]:=by kernel_rfl
theorem apJ:zerosOf Tryz.prog 98=some [(.slice none 0 0),(.int .i64 0),(.int .i64 0),(.int .i64 0),(.int .i64 0)]:=by kernel_rfl
theorem apK:zerosOf Tryz.prog 100=some [(.int .i64 0),(.int .i64 0),(.int .i64 0),(.int .i64 0)]:=by kernel_rfl
theorem apL:zerosOf Tryz.prog 104=some [(.slice none 0 0),(.int .i64 0),(.slice none 0 0),(.slice none 0 0),(.slice none 0 0),(.slice none 0 0)]:=by kernel_rfl
theorem apM:zerosOf Tryz.prog 106=some [(.int .i64 0),(.int .i64 0),(.slice none 0 0),(.int .i64 0),(.int .i64 0),(.int .i64 0),(.int .i64 0),(.int .i64 0),(.int .i64 0),(.int .i64 0),(.int .i64 0),(.slice none 0 0),(.int .i64 0),(.slice none 0 0),(.slice none 0 0),(.int .i64 0),(.slice none 0 0),(.slice none 0 0),(.slice none 0 0),(.int .i64 0),(.slice none 0 0),(.slice none 0 0),(.slice none 0 0),(.slice none 0 0),(.int .i64 0),(.slice none 0 0)]:=by kernel_rfl
theorem apN:zerosOf Tryz.prog 108=some [(.int .i64 0),(.int .i64 0)]:=by kernel_rfl
theorem apO:zerosOf Tryz.prog 110=some [(.int .i64 0),(.int .i64 0),(.int .i64 0),(.int .i64 0),(.int .i64 0),(.int .i64 0),(.int .i64 0),(.slice none 0 0),(.slice none 0 0),(.int .i64 0),(.bool false),(.int .i64 0),(.int .i64 0),(.int .i64 0),(.slice none 0 0),(.int .i64 0),(.int .i64 0),(.int .i64 0),(.int .i64 0),(.int .i64 0),(.int .i64 0),(.int .i64 0),(.int .i64 0),(.int .i64 0),(.int .i64 0),(.slice none 0 0),(.int .i64 0),(.int .i64 0),(.int .i64 0),(.int .i64 0),(.int .i64 0),(.int .i64 0),(.int .i64 0),(.int .i64 0),(.slice none 0 0),(.int .i64 0),(.slice none 0 0),(.slice none 0 0),(.int .i64 0),(.slice none 0 0),(.slice none 0 0),(.slice none 0 0),(.int .i64 0),(.slice none 0 0),(.slice none 0 0),(.slice none 0 0),(.slice none 0 0),(.int .i64 0),(.slice none 0 0),(.int .i64 0),(.slice none 0 0),(.slice none 0 0),(.int .i64 0),(.int .i64 0),(.int .i64 0),(.int .i64 0),(.int .i64 0),(.int .i64 0),(.int .i64 0),(.int .i64 0),(.int .i64 0),(.slice none 0 0),(.slice none 0 0)]:=by kernel_rfl
theorem apP:zerosOf Tryz.prog 117=some [(.int .i64 0),(.int .i64 0),(.int .i64 0)]:=by kernel_rfl
theorem apQ:zerosOf Tryz.prog 147=some [(.int .i64 0),(.int .i64 0),(.int .i64 0),(.int .i64 0)]:=by kernel_rfl
theorem apR:zerosOf Tryz.prog 164=some [(.int .i64 0),(.int .i64 0),(.int .i64 0),(.int .i64 0),(.int .i64 0),(.int .i64 0),(.string ⟨#[]⟩)]:=by kernel_rfl
theorem apS:zerosOf Tryz.prog 166=some [(.int .i64 0),(.int .i64 0),(.int .i64 0),(.int .i64 0),(.int .i64 0),(.int .i64 0),(.string ⟨#[]⟩),(.int .i64 0)]:=by kernel_rfl
theorem apT:zerosOf Tryz.prog 168=some [(.int .i64 0),(.int .i64 0)]:=by kernel_rfl
theorem qU:zerosOf Tryz.prog 173=some [(.pointer none),(.int .i64 0)]:=by kernel_rfl
theorem qV:zerosOf Tryz.prog 174=some [(.pointer none),(.int .i64 0),(.pointer none),(.int .i64 0),(.pointer none),(.int .i64 0),(.pointer none),(.int .i64 0)]:=by kernel_rfl
theorem apU:zerosOf Tryz.prog 186=some [(.slice none 0 0),(.slice none 0 0),(.int .i64 0),(.int .i64 0),(.slice none 0 0),(.int .i64 0),(.slice none 0 0),(.slice none 0 0),(.int .i64 0),(.int .i64 0),(.int .i64 0),(.int .i64 0),(.int .i64 0),(.slice none 0 0),(.int .i64 0),(.int .i64 0),(.int .i64 0),(.int .i64 0),(.int .i64 0),(.int .i64 0),(.int .i64 0),(.int .i64 0),(.slice none 0 0),(.int .i64 0),(.slice none 0 0),(.slice none 0 0),(.int .i64 0),(.slice none 0 0),(.slice none 0 0),(.slice none 0 0),(.int .i64 0),(.slice none 0 0),(.slice none 0 0),(.slice none 0 0),(.slice none 0 0),(.int .i64 0),(.slice none 0 0),(.int .i64 0),(.int .i64 0)]:=by kernel_rfl
theorem qW:zerosOf Tryz.prog 219=some [(.int .i64 0),(.int .i64 0)]:=by kernel_rfl
theorem qX:zerosOf Tryz.prog 220=some [(.int .i64 0),(.int .i64 0),(.int .i64 0),(.int .i64 0),(.int .i64 0),(.int .i64 0),(.int .i64 0),(.int .i64 0),(.int .i64 0),(.int .i64 0)]:=by kernel_rfl
theorem apV:zerosOf Tryz.prog 329=some [(.int .i64 0),(.int .i64 0),(.int .i64 0),(.int .i64 0)]:=by kernel_rfl
theorem by3:bytesP Tryz.prog 3=some 8:=by kernel_rfl
theorem qY:bytesP Tryz.prog 5=some 1:=by kernel_rfl
theorem by9:bytesP Tryz.prog 9=some 16:=by kernel_rfl
theorem apY:bytesP Tryz.prog 51=some 24:=by kernel_rfl
theorem apZ:bytesP Tryz.prog 64=some 96:=by kernel_rfl
theorem ap0:bytesP Tryz.prog 66=some 32:=by kernel_rfl
theorem ap1:bytesP Tryz.prog 75=some 112:=by kernel_rfl
theorem ap2:bytesP Tryz.prog 77=some 120:=by kernel_rfl
theorem ap3:bytesP Tryz.prog 82=some 88:=by kernel_rfl
theorem ap4:bytesP Tryz.prog 110=some 808:=by kernel_rfl
theorem ap5:bytesP Tryz.prog 117=some 24:=by kernel_rfl
theorem ap6:bytesP Tryz.prog 147=some 32:=by kernel_rfl
theorem ap7:bytesP Tryz.prog 164=some 64:=by kernel_rfl
theorem ap8:bytesP Tryz.prog 166=some 72:=by kernel_rfl
theorem ap9:bytesP Tryz.prog 168=some 16:=by kernel_rfl
theorem zv4:zeroVal Tryz.prog 4=some (.bool false):=by kernel_rfl
theorem aqb:zeroVal Tryz.prog 187=some .nilFunc:=by kernel_rfl
theorem aqc:Tryz.prog.stoodInHeld 164=false:=by kernel_rfl
theorem aqd:Tryz.prog.eqGuardType Tryz.prog.depth 164=false:=by kernel_rfl
theorem aqe:Tryz.prog.stoodInHeld 166=false:=by kernel_rfl
theorem aqf:Tryz.prog.eqGuardType Tryz.prog.depth 166=false:=by kernel_rfl
theorem aqg:Tryz.prog.stoodInHeld 168=false:=by kernel_rfl
theorem aqh:Tryz.prog.eqGuardType Tryz.prog.depth 168=false:=by kernel_rfl
abbrev SC (c:Code):={s:SCode // stripCode Tryz.prog c=some s}
def SC.mk' {c:Code} {s:SCode} (h:stripCode Tryz.prog c=some s):SC c:=⟨s,h⟩
theorem aqi:Tryz.prog.follows .mixedOrders=true:=by kernel_rfl
theorem SC.ak {f:FuncId} {fn:Func} {c:Code} (x:SC c) {F:ai} (h0:F.sc=x.1) (h1:Tryz.prog.funcs[f]? =some fn) (h3:fn.body=some c) (h2:(fn.name== "runtime.NumGoroutine")=false:=by kernel_rfl) (h4:vR Tryz.prog fn.results.toList=some F.res:=by kernel_rfl)
  (h5:Nat.ble fn.results.toList.length 5=true:=by kernel_rfl) (h6:Nat.ble F.na fn.ntmps=true:=by kernel_rfl) (h7:jo fn.ntmps F.PV F.FL F.sc=true:=by kernel_rfl):aj Tryz.prog f F:=
 ⟨⟨fn,c,h1,h2,h3,by rw [h0];exact x.2,h4,Nat.le_of_ble_eq_true h5,Nat.le_of_ble_eq_true h6,h7⟩,aqi⟩
inductive Tb where
 |leaf (n:Nat) (F:ai) (h:aj Tryz.prog n F)
 |node (m:Nat) (l r:Tb)
noncomputable def Tb.get (t:Tb):Nat->Option ai:= @Tb.rec (fun _=>Nat->Option ai) (fun n F _ f=>cnd (Nat.beq f n) (some F) none) (fun m _ _ l r f=>cnd (Nat.blt f m) (l f) (r f)) t
theorem Tb.ok:∀ (t:Tb) (g:Nat) (F:ai),t.get g=some F->aj Tryz.prog g F
 | .leaf n F h,g,F',e=>by
  have e':cnd (Nat.beq g n) (some F) none=some F':=e
  cases hb:Nat.beq g n with
  |false=>rw [hb] at e';cases e'
  |true=>
   rw [hb] at e'
   cases e'
   rw [aC hb];exact h
 | .node m l r,g,F',e=>by
  have e':cnd (Nat.blt g m) (l.get g) (r.get g)=some F':=e
  cases hb:Nat.blt g m with
  |false=>rw [hb] at e';exact Tb.ok r g F' e'
  |true=>rw [hb] at e';exact Tb.ok l g F' e'
attribute [go_sem] stripCode stripOps stripOper strip stripParts kindsOf kinds2 Option.bind List.filterMap reduceIte Bool.false_eq_true Bool.and_true Bool.and_self Bool.true_and and_self and_true true_and List.all List.map List.isEmpty Option.isSome ne_eq not_false_eq_true not_true_eq_false reduceCtorEq String.reduceEq String.reduceNe List.length_cons List.length_nil Nat.reduceAdd Nat.reduceMul Nat.reduceLT Nat.reduceLeDiff Nat.zero_add Value.oneCell' Nat.reduceEqDiff Option.getD List.getElem?_toArray List.getElem?_cons_zero List.getElem?_cons_succ List.size_toArray if_true if_false List.any Array.size decide_true decide_false Tryz.underlying3 Tryz.underlying4 Tryz.underlying5 Tryz.underlying9 Tryz.underlying22 Tryz.underlying27 Tryz.underlying28 Tryz.underlying29 Tryz.underlying30 Tryz.underlying32 Tryz.underlying34 Tryz.underlying35 Tryz.underlying37 Tryz.underlying39 Tryz.underlying40 Tryz.underlying41 Tryz.underlying42 Tryz.underlying44 Tryz.underlying47 Tryz.underlying48 Tryz.underlying51 Tryz.underlying53 Tryz.underlying55 Tryz.underlying57 Tryz.underlying62 Tryz.underlying64 Tryz.underlying66 Tryz.underlying69 Tryz.underlying70 Tryz.underlying71 Tryz.underlying73 Tryz.underlying75 Tryz.underlying77 Tryz.underlying82 Tryz.underlying98 Tryz.underlying100 Tryz.underlying101 Tryz.underlying102 Tryz.underlying104 Tryz.underlying106 Tryz.underlying108 Tryz.underlying110 Tryz.underlying117 Tryz.underlying127 Tryz.underlying147 Tryz.underlying164 Tryz.underlying166 Tryz.underlying168 Tryz.underlying173 Tryz.underlying174 Tryz.underlying186 Tryz.underlying219 Tryz.underlying220 Tryz.underlying223 Tryz.underlying273 Tryz.underlying293 Tryz.underlying294 Tryz.underlying329 qE sz4 qF sz9 an2 an3 an4 an5 an6 an7 an8 an9 aoa aob aoc aod aoe aof qG aog aoh aoi aoj aok aol aom aon aoo aop aoq aor aos aot aou aov aow aox aoy aoz aoA aoB aoC aoD aoE aoF aoG aoH qH qI aoI qJ qK ag4 qL ag9 aoL aoM aoN aoO aoP aoQ aoR aoS aoT aoU aoV aoW aoX qM aoY aoZ ao0 ao1 ao2 ao3 ao4 ao5 ao6 ao7 ao8 ao9 apa apb apc apd ape apf apg aph apj apk apl apm apn apo apq qN qO apr qP zr3 zr4 qQ zr9 apv apw apx apy apz qR apA apB apC apD apE apF apG apH apI apJ apK apL apM apN apO apP apQ apR apS apT qU qV apU qW qX apV by3 qY by9 apY apZ ap0 ap1 ap2 ap3 ap4 ap5 ap6 ap7 ap8 ap9 zv4 aqb aqc aqd aqe aqf aqg aqh
end Go.M
namespace Go.M
open Go Go.Proofs
open Go.Eng (SOp SOper SCode sizeP aggP zerosOf bytesP zeroVal stripCode stripOps stripOper strip stripParts kindsOf kinds2)
noncomputable def Tx:SC (Tryz.f17.body.getD .skip):=SC.mk' (by simp only [Tryz.f17,go_sem];rfl)
noncomputable def Ty:ai:=⟨[0,1,2,4,5,12,3],[1,2,4],[],1,Tx.1,[.cell 2 true 23,.tmp 3],195⟩
theorem aqj:aj Tryz.prog 17 Ty:=SC.ak Tx rfl (fn:=Tryz.f17) (by kernel_rfl) (by kernel_rfl)
noncomputable def Tz:SC (Tryz.f29.body.getD .skip):=SC.mk' (by simp only [Tryz.f29,go_sem];rfl)
noncomputable def TA:ai:=⟨[0,1,2,3,4],[2,3],[],2,Tz.1,[.tmp 4],65⟩
theorem aqk:aj Tryz.prog 29 TA:=SC.ak Tz rfl (fn:=Tryz.f29) (by kernel_rfl) (by kernel_rfl)
noncomputable def TB:SC (Tryz.f30.body.getD .skip):=SC.mk' (by simp only [Tryz.f30,go_sem];rfl)
noncomputable def TD:ai:=⟨[0,1,2,3,4],[2,3],[],2,TB.1,[.tmp 4],65⟩
theorem aql:aj Tryz.prog 30 TD:=SC.ak TB rfl (fn:=Tryz.f30) (by kernel_rfl) (by kernel_rfl)
noncomputable def s44:SC (Tryz.f44.body.getD .skip):=SC.mk' (by simp only [Tryz.f44,go_sem];rfl)
noncomputable def TF:ai:=⟨[0,1,2,4,3,6,7,11,12,34,35,47,13,10,28,42,48,61,14,71,84,8,9],[3,4,6,7,12,13],[],3,s44.1,[.cell 6 true 11,.cell 7 true 63,.tmp 8,.tmp 9],910⟩
theorem aqm:aj Tryz.prog 44 TF:=SC.ak s44 rfl (fn:=Tryz.f44) (by kernel_rfl) (by kernel_rfl)
noncomputable def TG:SC (Tryz.f47.body.getD .skip):=SC.mk' (by simp only [Tryz.f47,go_sem];rfl)
noncomputable def TH:ai:=⟨[0,1,5,10,14,25,4],[],[],2,TG.1,[.tmp 4],0⟩
theorem aqn:aj Tryz.prog 47 TH:=SC.ak TG rfl (fn:=Tryz.f47) (by kernel_rfl) (by kernel_rfl)
noncomputable def zm:SC (Tryz.f59.body.getD .skip):=SC.mk' (by simp only [Tryz.f59,go_sem];rfl)
noncomputable def Dq:ai:=⟨[0,4,7,2,23,5,12,22,24,8,9,54,3],[2,7],[],1,zm.1,[.cell 2 true 4,.tmp 3],195⟩
theorem BO:aj Tryz.prog 59 Dq:=SC.ak zm rfl (fn:=Tryz.f59) (by kernel_rfl) (by kernel_rfl)
noncomputable def TI:SC (Tryz.f73.body.getD .skip):=SC.mk' (by simp only [Tryz.f73,go_sem];rfl)
noncomputable def TJ:ai:=⟨[0,1,2,4,6,7,3,15,32,11,10,12,14,18,19,136,24,33,43,58,13,72,80,95,16,17,115,122,20,132,137,146,8,9],[3,4,6,7,11,12,15,19],[],3,TI.1,[.cell 6 true 11,.cell 7 true 63,.tmp 8,.tmp 9],910⟩
theorem aqo:aj Tryz.prog 73 TJ:=SC.ak TI rfl (fn:=Tryz.f73) (by kernel_rfl) (by kernel_rfl)
noncomputable def TL:SC (Tryz.f88.body.getD .skip):=SC.mk' (by simp only [Tryz.f88,go_sem];rfl)
noncomputable def TM:ai:=⟨[0,4,1,10,5,2],[1],[],1,TL.1,[.tmp 2],0⟩
theorem aqp:aj Tryz.prog 88 TM:=SC.ak TL rfl (fn:=Tryz.f88) (by kernel_rfl) (by kernel_rfl)
noncomputable def TN:SC (Tryz.f97.body.getD .skip):=SC.mk' (by simp only [Tryz.f97,go_sem];rfl)
noncomputable def TP:ai:=⟨[0,1,3,7,11,2],[1],[],1,TN.1,[.tmp 2],455⟩
theorem aqr:aj Tryz.prog 97 TP:=SC.ak TN rfl (fn:=Tryz.f97) (by kernel_rfl) (by kernel_rfl)
noncomputable def TQ:SC (Tryz.f109.body.getD .skip):=SC.mk' (by simp only [Tryz.f109,go_sem];rfl)
noncomputable def TR:ai:=⟨[0,2,9,3],[2],[],1,TQ.1,[.cell 2 true 2,.tmp 3],0⟩
theorem aqs:aj Tryz.prog 109 TR:=SC.ak TQ rfl (fn:=Tryz.f109) (by kernel_rfl) (by kernel_rfl)
noncomputable def TS:SC (Tryz.f110.body.getD .skip):=SC.mk' (by simp only [Tryz.f110,go_sem];rfl)
noncomputable def TT:ai:=⟨[0,5,11,3,2],[],[],1,TS.1,[.tmp 2],65⟩
theorem aqt:aj Tryz.prog 110 TT:=SC.ak TS rfl (fn:=Tryz.f110) (by kernel_rfl) (by kernel_rfl)
noncomputable def TU:SC (Tryz.f122.body.getD .skip):=SC.mk' (by simp only [Tryz.f122,go_sem];rfl)
noncomputable def TV:ai:=⟨[0,1,2,4],[2],[],2,TU.1,[.tmp 4],520⟩
theorem aqu:aj Tryz.prog 122 TV:=SC.ak TU rfl (fn:=Tryz.f122) (by kernel_rfl) (by kernel_rfl)
noncomputable def TW:SC (Tryz.f150.body.getD .skip):=SC.mk' (by simp only [Tryz.f150,go_sem];rfl)
noncomputable def TY:ai:=⟨[0,1,8,56,3,4,5,6,54,13,19,23,36,37,44,55,57,67,79,2],[1,8],[],1,TW.1,[.tmp 2],390⟩
theorem aqv:aj Tryz.prog 150 TY:=SC.ak TW rfl (fn:=Tryz.f150) (by kernel_rfl) (by kernel_rfl)
noncomputable def T9:SC (Tryz.f155.body.getD .skip):=SC.mk' (by simp only [Tryz.f155,go_sem];rfl)
noncomputable def Ua:ai:=⟨[0,1,2,4,5,7,8,9,19,6],[2,4,5,7,8],[],2,T9.1,[.cell 4 true 8,.cell 5 true 7,.tmp 6],520⟩
theorem aqw:aj Tryz.prog 155 Ua:=SC.ak T9 rfl (fn:=Tryz.f155) (by kernel_rfl) (by kernel_rfl)
noncomputable def Ub:SC (Tryz.f157.body.getD .skip):=SC.mk' (by simp only [Tryz.f157,go_sem];rfl)
noncomputable def Ud:ai:=⟨[0,1,2,4],[2],[],2,Ub.1,[.tmp 4],0⟩
theorem aqx:aj Tryz.prog 157 Ud:=SC.ak Ub rfl (fn:=Tryz.f157) (by kernel_rfl) (by kernel_rfl)
noncomputable def Ue:SC (Tryz.f164.body.getD .skip):=SC.mk' (by simp only [Tryz.f164,go_sem];rfl)
noncomputable def Uf:ai:=⟨[0,1,2,4,5,13,3],[1,2,4],[],1,Ue.1,[.cell 2 true 26,.tmp 3],65⟩
theorem aqy:aj Tryz.prog 164 Uf:=SC.ak Ue rfl (fn:=Tryz.f164) (by kernel_rfl) (by kernel_rfl)
noncomputable def Ug:SC (Tryz.f169.body.getD .skip):=SC.mk' (by simp only [Tryz.f169,go_sem];rfl)
noncomputable def Uh:ai:=⟨[0,1,2,3,6,35,7],[3,6],[],3,Ug.1,[.cell 6 true 2,.tmp 7],0⟩
theorem aqz:aj Tryz.prog 169 Uh:=SC.ak Ug rfl (fn:=Tryz.f169) (by kernel_rfl) (by kernel_rfl)
noncomputable def Ui:SC (Tryz.f212.body.getD .skip):=SC.mk' (by simp only [Tryz.f212,go_sem];rfl)
noncomputable def Uj:ai:=⟨[0,2],[],[],1,Ui.1,[.tmp 2],0⟩
theorem aqA:aj Tryz.prog 212 Uj:=SC.ak Ui rfl (fn:=Tryz.f212) (by kernel_rfl) (by kernel_rfl)
noncomputable def Uk:SC (Tryz.f219.body.getD .skip):=SC.mk' (by simp only [Tryz.f219,go_sem];rfl)
noncomputable def Ul:ai:=⟨[0,1,2,4,6,11,3,8,9,13,22,33,44,48,52,7],[3,4,6],[],3,Uk.1,[.cell 6 true 4,.tmp 7],65⟩
theorem aqB:aj Tryz.prog 219 Ul:=SC.ak Uk rfl (fn:=Tryz.f219) (by kernel_rfl) (by kernel_rfl)
noncomputable def Um:SC (Tryz.f224.body.getD .skip):=SC.mk' (by simp only [Tryz.f224,go_sem];rfl)
noncomputable def Un:ai:=⟨[0,1,2,3,8,11,4,5,10,12,18,27,43,9],[4,5,8,11],[],4,Um.1,[.cell 8 true 4,.tmp 9],650⟩
theorem aqC:aj Tryz.prog 224 Un:=SC.ak Um rfl (fn:=Tryz.f224) (by kernel_rfl) (by kernel_rfl)
noncomputable def Uo:SC (Tryz.f236.body.getD .skip):=SC.mk' (by simp only [Tryz.f236,go_sem];rfl)
noncomputable def Uq:ai:=⟨[0,1,2,4],[2],[],2,Uo.1,[.tmp 4],0⟩
theorem aqD:aj Tryz.prog 236 Uq:=SC.ak Uo rfl (fn:=Tryz.f236) (by kernel_rfl) (by kernel_rfl)
noncomputable def Ur:SC (Tryz.f241.body.getD .skip):=SC.mk' (by simp only [Tryz.f241,go_sem];rfl)
noncomputable def Us:ai:=⟨[0,2],[],[],1,Ur.1,[.tmp 2],0⟩
theorem aqE:aj Tryz.prog 241 Us:=SC.ak Ur rfl (fn:=Tryz.f241) (by kernel_rfl) (by kernel_rfl)
noncomputable def Ut:SC (Tryz.f262.body.getD .skip):=SC.mk' (by simp only [Tryz.f262,go_sem];rfl)
noncomputable def Uu:ai:=⟨[0,1,2,4],[2,4],[],2,Ut.1,[.cell 4 true 26],0⟩
theorem aqF:aj Tryz.prog 262 Uu:=SC.ak Ut rfl (fn:=Tryz.f262) (by kernel_rfl) (by kernel_rfl)
noncomputable def Uv:SC (Tryz.f278.body.getD .skip):=SC.mk' (by simp only [Tryz.f278,go_sem];rfl)
noncomputable def Uw:ai:=⟨[0,1,2,6],[],[],3,Uv.1,[.tmp 6],0⟩
theorem aqG:aj Tryz.prog 278 Uw:=SC.ak Uv rfl (fn:=Tryz.f278) (by kernel_rfl) (by kernel_rfl)
noncomputable def Ux:SC (Tryz.f288.body.getD .skip):=SC.mk' (by simp only [Tryz.f288,go_sem];rfl)
noncomputable def Uy:ai:=⟨[0,1,2,3,24,9,45,6,7,22,43,11,19,23,25,37,44,46,53],[3,9,11],[],3,Ux.1,[.tmp 6,.tmp 7],585⟩
theorem aqH:aj Tryz.prog 288 Uy:=SC.ak Ux rfl (fn:=Tryz.f288) (by kernel_rfl) (by kernel_rfl)
noncomputable def Uz:SC (Tryz.f297.body.getD .skip):=SC.mk' (by simp only [Tryz.f297,go_sem];rfl)
noncomputable def UA:ai:=⟨[0,1,2,9,11,8,10,17,31,6,7],[],[],3,Uz.1,[.tmp 6,.tmp 7],195⟩
theorem aqI:aj Tryz.prog 297 UA:=SC.ak Uz rfl (fn:=Tryz.f297) (by kernel_rfl) (by kernel_rfl)
noncomputable def UB:SC (Tryz.f301.body.getD .skip):=SC.mk' (by simp only [Tryz.f301,go_sem];rfl)
noncomputable def UC:ai:=⟨[0,1,6,5,16,29,4],[],[],2,UB.1,[.tmp 4],325⟩
theorem aqJ:aj Tryz.prog 301 UC:=SC.ak UB rfl (fn:=Tryz.f301) (by kernel_rfl) (by kernel_rfl)
noncomputable def UD:SC (Tryz.f308.body.getD .skip):=SC.mk' (by simp only [Tryz.f308,go_sem];rfl)
noncomputable def UE:ai:=⟨[0,1,2,4,23,6,8,3,10,25,30,37,42,47,7],[3,4,6],[],3,UD.1,[.cell 6 true 4,.tmp 7],65⟩
theorem aqK:aj Tryz.prog 308 UE:=SC.ak UD rfl (fn:=Tryz.f308) (by kernel_rfl) (by kernel_rfl)
noncomputable def UF:SC (Tryz.f311.body.getD .skip):=SC.mk' (by simp only [Tryz.f311,go_sem];rfl)
noncomputable def UG:ai:=⟨[0,1,2,4,3,9,12,6,7,10,11,22,45,63,76,8],[3,4,6,7,10,11],[],3,UF.1,[.cell 6 true 11,.cell 7 true 26,.tmp 8],650⟩
theorem aqL:aj Tryz.prog 311 UG:=SC.ak UF rfl (fn:=Tryz.f311) (by kernel_rfl) (by kernel_rfl)
noncomputable def UH:SC (Tryz.f317.body.getD .skip):=SC.mk' (by simp only [Tryz.f317,go_sem];rfl)
noncomputable def UI:ai:=⟨[0,1,2,4,7,12,17,3],[1,2],[],1,UH.1,[.cell 2 true 7,.tmp 3],130⟩
theorem aqM:aj Tryz.prog 317 UI:=SC.ak UH rfl (fn:=Tryz.f317) (by kernel_rfl) (by kernel_rfl)
noncomputable def UJ:SC (Tryz.f339.body.getD .skip):=SC.mk' (by simp only [Tryz.f339,go_sem];rfl)
noncomputable def UK:ai:=⟨[0,1,2],[1],[],1,UJ.1,[.tmp 2],65⟩
theorem aqN:aj Tryz.prog 339 UK:=SC.ak UJ rfl (fn:=Tryz.f339) (by kernel_rfl) (by kernel_rfl)
noncomputable def UL:SC (Tryz.f343.body.getD .skip):=SC.mk' (by simp only [Tryz.f343,go_sem];rfl)
noncomputable def UM:ai:=⟨[0,1,8,5,7,9,16,4],[],[],2,UL.1,[.tmp 4],65⟩
theorem aqO:aj Tryz.prog 343 UM:=SC.ak UL rfl (fn:=Tryz.f343) (by kernel_rfl) (by kernel_rfl)
noncomputable def UN:SC (Tryz.f345.body.getD .skip):=SC.mk' (by simp only [Tryz.f345,go_sem];rfl)
noncomputable def UO:ai:=⟨[0,2],[],[],1,UN.1,[.tmp 2],0⟩
theorem aqP:aj Tryz.prog 345 UO:=SC.ak UN rfl (fn:=Tryz.f345) (by kernel_rfl) (by kernel_rfl)
noncomputable def UQ:SC (Tryz.f366.body.getD .skip):=SC.mk' (by simp only [Tryz.f366,go_sem];rfl)
noncomputable def UR:ai:=⟨[0,1,2,6,3],[1,2],[],1,UQ.1,[.cell 2 true 5,.tmp 3],0⟩
theorem aqQ:aj Tryz.prog 366 UR:=SC.ak UQ rfl (fn:=Tryz.f366) (by kernel_rfl) (by kernel_rfl)
noncomputable def s16:SC (Tryz.f16.body.getD .skip):=SC.mk' (by simp only [Tryz.f16,go_sem];rfl)
noncomputable def UU:ai:=⟨[0,1,2,6],[6],[],3,s16.1,[.cell 6 true 8],0⟩
theorem ok16:aj Tryz.prog 16 UU:=SC.ak s16 rfl (fn:=Tryz.f16) (by kernel_rfl) (by kernel_rfl)
noncomputable def UW:SC (Tryz.f158.body.getD .skip):=SC.mk' (by simp only [Tryz.f158,go_sem];rfl)
noncomputable def UX:ai:=⟨[0,1,2,3,4,6,11,5],[2,3,4],[],2,UW.1,[.cell 4 true 3,.tmp 5],260⟩
theorem aqR:aj Tryz.prog 158 UX:=SC.ak UW rfl (fn:=Tryz.f158) (by kernel_rfl) (by kernel_rfl)
noncomputable def UY:SC (Tryz.f363.body.getD .skip):=SC.mk' (by simp only [Tryz.f363,go_sem];rfl)
noncomputable def UZ:ai:=⟨[0,1,6,5,16,39,4],[],[],2,UY.1,[.tmp 4],130⟩
theorem aqS:aj Tryz.prog 363 UZ:=SC.ak UY rfl (fn:=Tryz.f363) (by kernel_rfl) (by kernel_rfl)
end Go.M
namespace Go.M
open Go Go.Proofs
open Go.Eng (SOp SOper SCode sizeP aggP zerosOf bytesP zeroVal stripCode stripOps stripOper strip stripParts kindsOf kinds2)
noncomputable def s12:SC (Tryz.f12.body.getD .skip):=SC.mk' (by simp only [Tryz.f12,go_sem];rfl)
noncomputable def U0:ai:=⟨[0,1,2,5,15,35,4],[2],[],2,s12.1,[.tmp 4],130⟩
theorem aqT:aj Tryz.prog 12 U0:=SC.ak s12 rfl (fn:=Tryz.f12) (by kernel_rfl) (by kernel_rfl)
noncomputable def zq:SC (Tryz.f22.body.getD .skip):=SC.mk' (by simp only [Tryz.f22,go_sem];rfl)
noncomputable def U3:ai:=⟨[0,1,4],[],[],2,zq.1,[.tmp 4],0⟩
theorem Jj:aj Tryz.prog 22 U3:=SC.ak zq rfl (fn:=Tryz.f22) (by kernel_rfl) (by kernel_rfl)
noncomputable def s24:SC (Tryz.f24.body.getD .skip):=SC.mk' (by simp only [Tryz.f24,go_sem];rfl)
noncomputable def U4:ai:=⟨[0,1,2,3,8,6,5,11,12,22,30,37,9],[5,6,8,10],[],4,s24.1,[.cell 8 true 63,.tmp 9],195⟩
theorem aqU:aj Tryz.prog 24 U4:=SC.ak s24 rfl (fn:=Tryz.f24) (by kernel_rfl) (by kernel_rfl)
noncomputable def U5:SC (Tryz.f28.body.getD .skip):=SC.mk' (by simp only [Tryz.f28,go_sem];rfl)
noncomputable def U6:ai:=⟨[0,1,5,10,14,25,4],[],[],2,U5.1,[.tmp 4],0⟩
theorem aqV:aj Tryz.prog 28 U6:=SC.ak U5 rfl (fn:=Tryz.f28) (by kernel_rfl) (by kernel_rfl)
noncomputable def U7:SC (Tryz.f39.body.getD .skip):=SC.mk' (by simp only [Tryz.f39,go_sem];rfl)
noncomputable def U8:ai:=⟨[0,1,3,6,2],[1],[],1,U7.1,[.tmp 2],65⟩
theorem aqW:aj Tryz.prog 39 U8:=SC.ak U7 rfl (fn:=Tryz.f39) (by kernel_rfl) (by kernel_rfl)
noncomputable def U9:SC (Tryz.f55.body.getD .skip):=SC.mk' (by simp only [Tryz.f55,go_sem];rfl)
noncomputable def Va:ai:=⟨[0,1,2,19,4,6,7,3,40,112,11,20,30,52,62,72,82,92,102,123,8,9],[3,4,6,7],[],3,U9.1,[.cell 6 true 11,.cell 7 true 63,.tmp 8,.tmp 9],975⟩
theorem aqX:aj Tryz.prog 55 Va:=SC.ak U9 rfl (fn:=Tryz.f55) (by kernel_rfl) (by kernel_rfl)
noncomputable def Vb:SC (Tryz.f61.body.getD .skip):=SC.mk' (by simp only [Tryz.f61,go_sem];rfl)
noncomputable def Vd:ai:=⟨[0,1,3,39,37,5,9,26,31,38,40,4,50,54,2],[1,5],[],1,Vb.1,[.tmp 2],260⟩
theorem aqY:aj Tryz.prog 61 Vd:=SC.ak Vb rfl (fn:=Tryz.f61) (by kernel_rfl) (by kernel_rfl)
noncomputable def Ve:SC (Tryz.f67.body.getD .skip):=SC.mk' (by simp only [Tryz.f67,go_sem];rfl)
noncomputable def Vf:ai:=⟨[0,1,5,4,2,16,17,29,3],[1,2,4,5],[],1,Ve.1,[.cell 2 true 8,.tmp 3],650⟩
theorem aqZ:aj Tryz.prog 67 Vf:=SC.ak Ve rfl (fn:=Tryz.f67) (by kernel_rfl) (by kernel_rfl)
noncomputable def s87:SC (Tryz.f87.body.getD .skip):=SC.mk' (by simp only [Tryz.f87,go_sem];rfl)
noncomputable def Vg:ai:=⟨[0,2],[],[],1,s87.1,[.tmp 2],0⟩
theorem aq0:aj Tryz.prog 87 Vg:=SC.ak s87 rfl (fn:=Tryz.f87) (by kernel_rfl) (by kernel_rfl)
noncomputable def Vh:SC (Tryz.f94.body.getD .skip):=SC.mk' (by simp only [Tryz.f94,go_sem];rfl)
noncomputable def Vi:ai:=⟨[0,17,2,5,15,4,13,16,18,40,3],[2],[],1,Vh.1,[.cell 2 true 5,.tmp 3],65⟩
theorem aq1:aj Tryz.prog 94 Vi:=SC.ak Vh rfl (fn:=Tryz.f94) (by kernel_rfl) (by kernel_rfl)
noncomputable def Vj:SC (Tryz.f102.body.getD .skip):=SC.mk' (by simp only [Tryz.f102,go_sem];rfl)
noncomputable def Vk:ai:=⟨[0,1,4],[],[],2,Vj.1,[.tmp 4],65⟩
theorem aq2:aj Tryz.prog 102 Vk:=SC.ak Vj rfl (fn:=Tryz.f102) (by kernel_rfl) (by kernel_rfl)
noncomputable def Vl:SC (Tryz.f111.body.getD .skip):=SC.mk' (by simp only [Tryz.f111,go_sem];rfl)
noncomputable def Vo:ai:=⟨[0,1,2,3,5,4,8],[4,5,8],[],4,Vl.1,[.cell 8 true 63],195⟩
theorem aq3:aj Tryz.prog 111 Vo:=SC.ak Vl rfl (fn:=Tryz.f111) (by kernel_rfl) (by kernel_rfl)
noncomputable def Vp:SC (Tryz.f114.body.getD .skip):=SC.mk' (by simp only [Tryz.f114,go_sem];rfl)
noncomputable def Vq:ai:=⟨[0,1,2],[1,2],[],1,Vp.1,[.cell 2 true 3],0⟩
theorem aq4:aj Tryz.prog 114 Vq:=SC.ak Vp rfl (fn:=Tryz.f114) (by kernel_rfl) (by kernel_rfl)
noncomputable def Vs:SC (Tryz.f132.body.getD .skip):=SC.mk' (by simp only [Tryz.f132,go_sem];rfl)
noncomputable def Vt:ai:=⟨[0,1,2,3,4],[2,3,4],[],2,Vs.1,[.cell 4 true 63],260⟩
theorem aq5:aj Tryz.prog 132 Vt:=SC.ak Vs rfl (fn:=Tryz.f132) (by kernel_rfl) (by kernel_rfl)
noncomputable def Vu:SC (Tryz.f145.body.getD .skip):=SC.mk' (by simp only [Tryz.f145,go_sem];rfl)
noncomputable def Vv:ai:=⟨[0,3,4,5,6,28,44,64,95,2],[5],[],1,Vu.1,[.tmp 2],130⟩
theorem aq6:aj Tryz.prog 145 Vv:=SC.ak Vu rfl (fn:=Tryz.f145) (by kernel_rfl) (by kernel_rfl)
noncomputable def Vy:SC (Tryz.f161.body.getD .skip):=SC.mk' (by simp only [Tryz.f161,go_sem];rfl)
noncomputable def VA:ai:=⟨[0,1,2],[1,2],[],1,Vy.1,[.cell 2 true 8],65⟩
theorem aq7:aj Tryz.prog 161 VA:=SC.ak Vy rfl (fn:=Tryz.f161) (by kernel_rfl) (by kernel_rfl)
noncomputable def VB:SC (Tryz.f203.body.getD .skip):=SC.mk' (by simp only [Tryz.f203,go_sem];rfl)
noncomputable def VD:ai:=⟨[0,1,2,3,4,8,12,13,11,14,15,20,35,45,9,10],[4,8,14,15],[],4,VB.1,[.cell 8 true 8,.tmp 9,.tmp 10],520⟩
theorem aq8:aj Tryz.prog 203 VD:=SC.ak VB rfl (fn:=Tryz.f203) (by kernel_rfl) (by kernel_rfl)
noncomputable def VE:SC (Tryz.f208.body.getD .skip):=SC.mk' (by simp only [Tryz.f208,go_sem];rfl)
noncomputable def VF:ai:=⟨[0,1,2,4,6,7,10,3,20,11,30,38,8],[3,4,6,7],[],3,VE.1,[.cell 6 true 11,.cell 7 true 5,.tmp 8],260⟩
theorem aq9:aj Tryz.prog 208 VF:=SC.ak VE rfl (fn:=Tryz.f208) (by kernel_rfl) (by kernel_rfl)
noncomputable def VG:SC (Tryz.f213.body.getD .skip):=SC.mk' (by simp only [Tryz.f213,go_sem];rfl)
noncomputable def VH:ai:=⟨[0,1,2,4,10,16,3],[1,2],[],1,VG.1,[.cell 2 true 4,.tmp 3],65⟩
theorem ara:aj Tryz.prog 213 VH:=SC.ak VG rfl (fn:=Tryz.f213) (by kernel_rfl) (by kernel_rfl)
noncomputable def VI:SC (Tryz.f228.body.getD .skip):=SC.mk' (by simp only [Tryz.f228,go_sem];rfl)
noncomputable def VJ:ai:=⟨[0,1,4],[],[],2,VI.1,[.tmp 4],0⟩
theorem arb:aj Tryz.prog 228 VJ:=SC.ak VI rfl (fn:=Tryz.f228) (by kernel_rfl) (by kernel_rfl)
noncomputable def VK:SC (Tryz.f231.body.getD .skip):=SC.mk' (by simp only [Tryz.f231,go_sem];rfl)
noncomputable def VN:ai:=⟨[0,1,2,4,10,6,7,19,5],[2,4],[],2,VK.1,[.cell 4 true 8,.tmp 5],390⟩
theorem ard:aj Tryz.prog 231 VN:=SC.ak VK rfl (fn:=Tryz.f231) (by kernel_rfl) (by kernel_rfl)
noncomputable def VO:SC (Tryz.f233.body.getD .skip):=SC.mk' (by simp only [Tryz.f233,go_sem];rfl)
noncomputable def VQ:ai:=⟨[0,1,2,4,5,7,8,11,15,9,26,10,37,6],[2,4,5],[44],2,VO.1,[.cell 4 true 2,.cell 5 true 7,.tmp 6],455⟩
theorem arf:aj Tryz.prog 233 VQ:=SC.ak VO rfl (fn:=Tryz.f233) (by kernel_rfl) (by kernel_rfl)
noncomputable def VS:SC (Tryz.f235.body.getD .skip):=SC.mk' (by simp only [Tryz.f235,go_sem];rfl)
noncomputable def VT:ai:=⟨[0,1,2],[1,2],[],1,VS.1,[.cell 2 true 3],65⟩
theorem arh:aj Tryz.prog 235 VT:=SC.ak VS rfl (fn:=Tryz.f235) (by kernel_rfl) (by kernel_rfl)
noncomputable def VU:SC (Tryz.f242.body.getD .skip):=SC.mk' (by simp only [Tryz.f242,go_sem];rfl)
noncomputable def VW:ai:=⟨[0,1,6,7,11,17,4,5],[],[],2,VU.1,[.tmp 4,.tmp 5],390⟩
theorem ari:aj Tryz.prog 242 VW:=SC.ak VU rfl (fn:=Tryz.f242) (by kernel_rfl) (by kernel_rfl)
noncomputable def VX:SC (Tryz.f243.body.getD .skip):=SC.mk' (by simp only [Tryz.f243,go_sem];rfl)
noncomputable def VY:ai:=⟨[0,1,3,6,10,12,16,20,4,5],[3],[],2,VX.1,[.tmp 4,.tmp 5],325⟩
theorem arj:aj Tryz.prog 243 VY:=SC.ak VX rfl (fn:=Tryz.f243) (by kernel_rfl) (by kernel_rfl)
noncomputable def VZ:SC (Tryz.f250.body.getD .skip):=SC.mk' (by simp only [Tryz.f250,go_sem];rfl)
noncomputable def V3:ai:=⟨[0,1,2,3,4,5,6,12,18,19,16,17,15,24,52,57,70,80,13,14],[6,12,19],[],6,VZ.1,[.cell 12 true 8,.tmp 13,.tmp 14],520⟩
theorem ark:aj Tryz.prog 250 V3:=SC.ak VZ rfl (fn:=Tryz.f250) (by kernel_rfl) (by kernel_rfl)
noncomputable def V4:SC (Tryz.f274.body.getD .skip):=SC.mk' (by simp only [Tryz.f274,go_sem];rfl)
noncomputable def V5:ai:=⟨[0,1,5,6,7,12,19,29,4],[],[],2,V4.1,[.tmp 4],130⟩
theorem arl:aj Tryz.prog 274 V5:=SC.ak V4 rfl (fn:=Tryz.f274) (by kernel_rfl) (by kernel_rfl)
noncomputable def V6:SC (Tryz.f293.body.getD .skip):=SC.mk' (by simp only [Tryz.f293,go_sem];rfl)
noncomputable def V7:ai:=⟨[0,1,5,2],[1],[],1,V6.1,[.tmp 2],195⟩
theorem arn:aj Tryz.prog 293 V7:=SC.ak V6 rfl (fn:=Tryz.f293) (by kernel_rfl) (by kernel_rfl)
noncomputable def V8:SC (Tryz.f294.body.getD .skip):=SC.mk' (by simp only [Tryz.f294,go_sem];rfl)
noncomputable def V9:ai:=⟨[0,1,8,5,7,9,16,4],[],[],2,V8.1,[.tmp 4],0⟩
theorem aro:aj Tryz.prog 294 V9:=SC.ak V8 rfl (fn:=Tryz.f294) (by kernel_rfl) (by kernel_rfl)
noncomputable def Wd:SC (Tryz.f300.body.getD .skip):=SC.mk' (by simp only [Tryz.f300,go_sem];rfl)
noncomputable def Wh:ai:=⟨[0,1,3,4],[],[],2,Wd.1,[.tmp 4],195⟩
theorem arp:aj Tryz.prog 300 Wh:=SC.ak Wd rfl (fn:=Tryz.f300) (by kernel_rfl) (by kernel_rfl)
noncomputable def Wi:SC (Tryz.f319.body.getD .skip):=SC.mk' (by simp only [Tryz.f319,go_sem];rfl)
noncomputable def Wj:ai:=⟨[0,1,3,5,8,4,6,7,39,44,58,64,73,78,89,2],[1],[],1,Wi.1,[.tmp 2],130⟩
theorem arq:aj Tryz.prog 319 Wj:=SC.ak Wi rfl (fn:=Tryz.f319) (by kernel_rfl) (by kernel_rfl)
noncomputable def Wl:SC (Tryz.f322.body.getD .skip):=SC.mk' (by simp only [Tryz.f322,go_sem];rfl)
noncomputable def Wm:ai:=⟨[0,1,5,2,10,21,4],[2],[],2,Wl.1,[.tmp 4],0⟩
theorem ars:aj Tryz.prog 322 Wm:=SC.ak Wl rfl (fn:=Tryz.f322) (by kernel_rfl) (by kernel_rfl)
noncomputable def Wn:SC (Tryz.f340.body.getD .skip):=SC.mk' (by simp only [Tryz.f340,go_sem];rfl)
noncomputable def Wo:ai:=⟨[0,1,2,6],[],[],3,Wn.1,[.tmp 6],195⟩
theorem aru:aj Tryz.prog 340 Wo:=SC.ak Wn rfl (fn:=Tryz.f340) (by kernel_rfl) (by kernel_rfl)
noncomputable def Wp:SC (Tryz.f346.body.getD .skip):=SC.mk' (by simp only [Tryz.f346,go_sem];rfl)
noncomputable def Wq:ai:=⟨[0,1,8,5,7,9,16,4],[],[],2,Wp.1,[.tmp 4],130⟩
theorem arv:aj Tryz.prog 346 Wq:=SC.ak Wp rfl (fn:=Tryz.f346) (by kernel_rfl) (by kernel_rfl)
noncomputable def Ws:SC (Tryz.f367.body.getD .skip):=SC.mk' (by simp only [Tryz.f367,go_sem];rfl)
noncomputable def Wt:ai:=⟨[0,1,2,6,16,4,5],[2],[],2,Ws.1,[.tmp 4,.tmp 5],0⟩
theorem arw:aj Tryz.prog 367 Wt:=SC.ak Ws rfl (fn:=Tryz.f367) (by kernel_rfl) (by kernel_rfl)
noncomputable def Wu:SC (Tryz.f38.body.getD .skip):=SC.mk' (by simp only [Tryz.f38,go_sem];rfl)
noncomputable def Wv:ai:=⟨[0,2,3,4,5],[2,3],[],1,Wu.1,[.cell 2 true 11,.cell 3 true 63,.tmp 4,.tmp 5],0⟩
theorem arx:aj Tryz.prog 38 Wv:=SC.ak Wu rfl (fn:=Tryz.f38) (by kernel_rfl) (by kernel_rfl)
noncomputable def Ww:SC (Tryz.f106.body.getD .skip):=SC.mk' (by simp only [Tryz.f106,go_sem];rfl)
noncomputable def Wx:ai:=⟨[0,1,2,3,6],[3,6],[],3,Ww.1,[.cell 6 true 10],0⟩
theorem arz:aj Tryz.prog 106 Wx:=SC.ak Ww rfl (fn:=Tryz.f106) (by kernel_rfl) (by kernel_rfl)
end Go.M
namespace Go.M
open Go Go.Proofs
open Go.Eng (SOp SOper SCode sizeP aggP zerosOf bytesP zeroVal stripCode stripOps stripOper strip stripParts kindsOf kinds2)
noncomputable def s10:SC (Tryz.f10.body.getD .skip):=SC.mk' (by simp only [Tryz.f10,go_sem];rfl)
noncomputable def Wy:ai:=⟨[0,1,3,2],[1],[],1,s10.1,[.tmp 2],195⟩
theorem arA:aj Tryz.prog 10 Wy:=SC.ak s10 rfl (fn:=Tryz.f10) (by kernel_rfl) (by kernel_rfl)
noncomputable def Wz:SC (Tryz.f45.body.getD .skip):=SC.mk' (by simp only [Tryz.f45,go_sem];rfl)
noncomputable def WC:ai:=⟨[0,1,5,2,10,20,4],[2],[],2,Wz.1,[.tmp 4],0⟩
theorem arB:aj Tryz.prog 45 WC:=SC.ak Wz rfl (fn:=Tryz.f45) (by kernel_rfl) (by kernel_rfl)
noncomputable def WE:SC (Tryz.f58.body.getD .skip):=SC.mk' (by simp only [Tryz.f58,go_sem];rfl)
noncomputable def WG:ai:=⟨[0,5,1,6,8,10,2],[1],[],1,WE.1,[.tmp 2],0⟩
theorem arC:aj Tryz.prog 58 WG:=SC.ak WE rfl (fn:=Tryz.f58) (by kernel_rfl) (by kernel_rfl)
noncomputable def zk:SC (Tryz.f85.body.getD .skip):=SC.mk' (by simp only [Tryz.f85,go_sem];rfl)
noncomputable def WH:ai:=⟨[0,1,4,44,6,28,43,45,2,3],[1,6],[],1,zk.1,[.tmp 2,.tmp 3],130⟩
theorem Jf:aj Tryz.prog 85 WH:=SC.ak zk rfl (fn:=Tryz.f85) (by kernel_rfl) (by kernel_rfl)
noncomputable def WI:SC (Tryz.f100.body.getD .skip):=SC.mk' (by simp only [Tryz.f100,go_sem];rfl)
noncomputable def WJ:ai:=⟨[0,1,2,3,4,5,10,13,14,6,12,25,33,44,49,67,11],[5,6,10,13],[],5,WI.1,[.cell 10 true 8,.tmp 11],585⟩
theorem arD:aj Tryz.prog 100 WJ:=SC.ak WI rfl (fn:=Tryz.f100) (by kernel_rfl) (by kernel_rfl)
noncomputable def WK:SC (Tryz.f113.body.getD .skip):=SC.mk' (by simp only [Tryz.f113,go_sem];rfl)
noncomputable def WL:ai:=⟨[0,1,4,5,6,2,7,9,25,37,52,3],[1,2,4,5,6,7,9],[73,78],1,WK.1,[.cell 2 true 63,.tmp 3],650⟩
theorem arE:aj Tryz.prog 113 WL:=SC.ak WK rfl (fn:=Tryz.f113) (by kernel_rfl) (by kernel_rfl)
noncomputable def WM:SC (Tryz.f119.body.getD .skip):=SC.mk' (by simp only [Tryz.f119,go_sem];rfl)
noncomputable def WN:ai:=⟨[0,3,8,7,1,6,2,20,9],[1,2,3,4,8],[],1,WM.1,[.cell 2 true 7],650⟩
theorem arF:aj Tryz.prog 119 WN:=SC.ak WM rfl (fn:=Tryz.f119) (by kernel_rfl) (by kernel_rfl)
noncomputable def zi:SC (Tryz.f139.body.getD .skip):=SC.mk' (by simp only [Tryz.f139,go_sem];rfl)
noncomputable def WO:ai:=⟨[0,2],[],[],1,zi.1,[.tmp 2],65⟩
theorem Je:aj Tryz.prog 139 WO:=SC.ak zi rfl (fn:=Tryz.f139) (by kernel_rfl) (by kernel_rfl)
noncomputable def WQ:SC (Tryz.f140.body.getD .skip):=SC.mk' (by simp only [Tryz.f140,go_sem];rfl)
noncomputable def WR:ai:=⟨[0,1,8,5,7,9,16,4],[],[],2,WQ.1,[.tmp 4],65⟩
theorem arG:aj Tryz.prog 140 WR:=SC.ak WQ rfl (fn:=Tryz.f140) (by kernel_rfl) (by kernel_rfl)
noncomputable def WS:SC (Tryz.f153.body.getD .skip):=SC.mk' (by simp only [Tryz.f153,go_sem];rfl)
noncomputable def WT:ai:=⟨[0,2],[],[],1,WS.1,[.tmp 2],65⟩
theorem arH:aj Tryz.prog 153 WT:=SC.ak WS rfl (fn:=Tryz.f153) (by kernel_rfl) (by kernel_rfl)
noncomputable def WU:SC (Tryz.f156.body.getD .skip):=SC.mk' (by simp only [Tryz.f156,go_sem];rfl)
noncomputable def WV:ai:=⟨[0,2],[],[],1,WU.1,[.tmp 2],65⟩
theorem arI:aj Tryz.prog 156 WV:=SC.ak WU rfl (fn:=Tryz.f156) (by kernel_rfl) (by kernel_rfl)
noncomputable def WW:SC (Tryz.f163.body.getD .skip):=SC.mk' (by simp only [Tryz.f163,go_sem];rfl)
noncomputable def WX:ai:=⟨[0,1,8,5,7,9,16,4],[],[],2,WW.1,[.tmp 4],0⟩
theorem arJ:aj Tryz.prog 163 WX:=SC.ak WW rfl (fn:=Tryz.f163) (by kernel_rfl) (by kernel_rfl)
noncomputable def WY:SC (Tryz.f168.body.getD .skip):=SC.mk' (by simp only [Tryz.f168,go_sem];rfl)
noncomputable def WZ:ai:=⟨[0,1,5,2],[1],[],1,WY.1,[.tmp 2],520⟩
theorem arK:aj Tryz.prog 168 WZ:=SC.ak WY rfl (fn:=Tryz.f168) (by kernel_rfl) (by kernel_rfl)
noncomputable def W9:SC (Tryz.f172.body.getD .skip):=SC.mk' (by simp only [Tryz.f172,go_sem];rfl)
noncomputable def Xa:ai:=⟨[0,1,2,25,33,6],[],[],3,W9.1,[.tmp 6],0⟩
theorem arL:aj Tryz.prog 172 Xa:=SC.ak W9 rfl (fn:=Tryz.f172) (by kernel_rfl) (by kernel_rfl)
noncomputable def Xb:SC (Tryz.f175.body.getD .skip):=SC.mk' (by simp only [Tryz.f175,go_sem];rfl)
noncomputable def Xc:ai:=⟨[0,1,4,6,7,14,22,5],[4,6],[],2,Xb.1,[.cell 4 true 26,.tmp 5],65⟩
theorem arM:aj Tryz.prog 175 Xc:=SC.ak Xb rfl (fn:=Tryz.f175) (by kernel_rfl) (by kernel_rfl)
noncomputable def Xd:SC (Tryz.f191.body.getD .skip):=SC.mk' (by simp only [Tryz.f191,go_sem];rfl)
noncomputable def Xe:ai:=⟨[0,1,3,2,4,6,7,12,26,32,52,56,69,73,80,9,5],[2,3,4,8],[],2,Xd.1,[.cell 4 true 26,.tmp 5],195⟩
theorem arN:aj Tryz.prog 191 Xe:=SC.ak Xd rfl (fn:=Tryz.f191) (by kernel_rfl) (by kernel_rfl)
noncomputable def Xf:SC (Tryz.f196.body.getD .skip):=SC.mk' (by simp only [Tryz.f196,go_sem];rfl)
noncomputable def Xg:ai:=⟨[0,1,2],[1],[],1,Xf.1,[.tmp 2],325⟩
theorem arO:aj Tryz.prog 196 Xg:=SC.ak Xf rfl (fn:=Tryz.f196) (by kernel_rfl) (by kernel_rfl)
noncomputable def Xh:SC (Tryz.f225.body.getD .skip):=SC.mk' (by simp only [Tryz.f225,go_sem];rfl)
noncomputable def Xi:ai:=⟨[0,1,3,8,4,61,5,6,59,9,40,45,56,60,62,68,81,2],[1,8],[],1,Xh.1,[.tmp 2],130⟩
theorem arP:aj Tryz.prog 225 Xi:=SC.ak Xh rfl (fn:=Tryz.f225) (by kernel_rfl) (by kernel_rfl)
noncomputable def Xj:SC (Tryz.f238.body.getD .skip):=SC.mk' (by simp only [Tryz.f238,go_sem];rfl)
noncomputable def Xk:ai:=⟨[0,4,2],[],[],1,Xj.1,[.tmp 2],0⟩
theorem arQ:aj Tryz.prog 238 Xk:=SC.ak Xj rfl (fn:=Tryz.f238) (by kernel_rfl) (by kernel_rfl)
noncomputable def Xl:SC (Tryz.f249.body.getD .skip):=SC.mk' (by simp only [Tryz.f249,go_sem];rfl)
noncomputable def Xm:ai:=⟨[0,4,2,12,17,47,3],[2],[],1,Xl.1,[.cell 2 true 5,.tmp 3],0⟩
theorem arR:aj Tryz.prog 249 Xm:=SC.ak Xl rfl (fn:=Tryz.f249) (by kernel_rfl) (by kernel_rfl)
noncomputable def Xn:SC (Tryz.f255.body.getD .skip):=SC.mk' (by simp only [Tryz.f255,go_sem];rfl)
noncomputable def Xo:ai:=⟨[0,1,2,4],[2],[],2,Xn.1,[.tmp 4],0⟩
theorem arS:aj Tryz.prog 255 Xo:=SC.ak Xn rfl (fn:=Tryz.f255) (by kernel_rfl) (by kernel_rfl)
noncomputable def Xp:SC (Tryz.f263.body.getD .skip):=SC.mk' (by simp only [Tryz.f263,go_sem];rfl)
noncomputable def Xq:ai:=⟨[0,1,3,2,4,5,11,7,6],[2,3,4,5],[],2,Xp.1,[.cell 4 true 11,.cell 5 true 26,.tmp 6],130⟩
theorem arT:aj Tryz.prog 263 Xq:=SC.ak Xp rfl (fn:=Tryz.f263) (by kernel_rfl) (by kernel_rfl)
noncomputable def Xr:SC (Tryz.f268.body.getD .skip):=SC.mk' (by simp only [Tryz.f268,go_sem];rfl)
noncomputable def Xt:ai:=⟨[0,1,2,4,5,8,9,7,13,23,6],[2,4,5],[31,32],2,Xr.1,[.cell 4 true 3,.cell 5 true 7,.tmp 6],195⟩
theorem arU:aj Tryz.prog 268 Xt:=SC.ak Xr rfl (fn:=Tryz.f268) (by kernel_rfl) (by kernel_rfl)
noncomputable def Xu:SC (Tryz.f280.body.getD .skip):=SC.mk' (by simp only [Tryz.f280,go_sem];rfl)
noncomputable def Xv:ai:=⟨[0,1,2,6,7,11,15,4,5],[2],[],2,Xu.1,[.tmp 4,.tmp 5],0⟩
theorem arV:aj Tryz.prog 280 Xv:=SC.ak Xu rfl (fn:=Tryz.f280) (by kernel_rfl) (by kernel_rfl)
noncomputable def Xw:SC (Tryz.f291.body.getD .skip):=SC.mk' (by simp only [Tryz.f291,go_sem];rfl)
noncomputable def Xx:ai:=⟨[0,13,5,11,4,8,10,12,14,3,23,28,36,2],[4],[],1,Xw.1,[.tmp 2],260⟩
theorem arW:aj Tryz.prog 291 Xx:=SC.ak Xw rfl (fn:=Tryz.f291) (by kernel_rfl) (by kernel_rfl)
noncomputable def Xy:SC (Tryz.f316.body.getD .skip):=SC.mk' (by simp only [Tryz.f316,go_sem];rfl)
noncomputable def Xz:ai:=⟨[0,1,2,3,6],[3],[],3,Xy.1,[.tmp 6],65⟩
theorem arX:aj Tryz.prog 316 Xz:=SC.ak Xy rfl (fn:=Tryz.f316) (by kernel_rfl) (by kernel_rfl)
noncomputable def XA:SC (Tryz.f324.body.getD .skip):=SC.mk' (by simp only [Tryz.f324,go_sem];rfl)
noncomputable def XB:ai:=⟨[0,1,3,6,10,12,16,20,4,5],[3],[],2,XA.1,[.tmp 4,.tmp 5],130⟩
theorem arY:aj Tryz.prog 324 XB:=SC.ak XA rfl (fn:=Tryz.f324) (by kernel_rfl) (by kernel_rfl)
noncomputable def XC:SC (Tryz.f327.body.getD .skip):=SC.mk' (by simp only [Tryz.f327,go_sem];rfl)
noncomputable def XD:ai:=⟨[0,1,4],[],[8],2,XC.1,[.tmp 4],0⟩
theorem arZ:aj Tryz.prog 327 XD:=SC.ak XC rfl (fn:=Tryz.f327) (by kernel_rfl) (by kernel_rfl)
noncomputable def XE:SC (Tryz.f331.body.getD .skip):=SC.mk' (by simp only [Tryz.f331,go_sem];rfl)
noncomputable def XF:ai:=⟨[0,1,2,6,3,8,9,16,25,7],[3,6],[],3,XE.1,[.cell 6 true 11,.tmp 7],130⟩
theorem ar0:aj Tryz.prog 331 XF:=SC.ak XE rfl (fn:=Tryz.f331) (by kernel_rfl) (by kernel_rfl)
noncomputable def XG:SC (Tryz.f341.body.getD .skip):=SC.mk' (by simp only [Tryz.f341,go_sem];rfl)
noncomputable def XH:ai:=⟨[0,1,3,4],[3],[],2,XG.1,[.tmp 4],65⟩
theorem ar1:aj Tryz.prog 341 XH:=SC.ak XG rfl (fn:=Tryz.f341) (by kernel_rfl) (by kernel_rfl)
noncomputable def XI:SC (Tryz.f356.body.getD .skip):=SC.mk' (by simp only [Tryz.f356,go_sem];rfl)
noncomputable def XJ:ai:=⟨[0,1,2,3,4,8,7,10,11,17,23,39,9],[4,7,8],[],4,XI.1,[.cell 8 true 11,.tmp 9],455⟩
theorem ar2:aj Tryz.prog 356 XJ:=SC.ak XI rfl (fn:=Tryz.f356) (by kernel_rfl) (by kernel_rfl)
noncomputable def XK:SC (Tryz.f360.body.getD .skip):=SC.mk' (by simp only [Tryz.f360,go_sem];rfl)
noncomputable def XL:ai:=⟨[0,1,2,3,8,4,5,10,20,25,30,46,11,12,9],[4,5,8],[],4,XK.1,[.cell 8 true 4,.tmp 9],585⟩
theorem ar3:aj Tryz.prog 360 XL:=SC.ak XK rfl (fn:=Tryz.f360) (by kernel_rfl) (by kernel_rfl)
noncomputable def XM:SC (Tryz.f364.body.getD .skip):=SC.mk' (by simp only [Tryz.f364,go_sem];rfl)
noncomputable def XO:ai:=⟨[0,1,2],[1],[],1,XM.1,[.tmp 2],0⟩
theorem ar4:aj Tryz.prog 364 XO:=SC.ak XM rfl (fn:=Tryz.f364) (by kernel_rfl) (by kernel_rfl)
noncomputable def XP:SC (Tryz.f368.body.getD .skip):=SC.mk' (by simp only [Tryz.f368,go_sem];rfl)
noncomputable def XQ:ai:=⟨[0,1,2,3,6,11],[3,6],[],3,XP.1,[.cell 6 true 11],65⟩
theorem ar5:aj Tryz.prog 368 XQ:=SC.ak XP rfl (fn:=Tryz.f368) (by kernel_rfl) (by kernel_rfl)
noncomputable def XR:SC (Tryz.f373.body.getD .skip):=SC.mk' (by simp only [Tryz.f373,go_sem];rfl)
noncomputable def XT:ai:=⟨[0,2],[],[],1,XR.1,[.tmp 2],0⟩
theorem ar6:aj Tryz.prog 373 XT:=SC.ak XR rfl (fn:=Tryz.f373) (by kernel_rfl) (by kernel_rfl)
noncomputable def XU:SC (Tryz.f378.body.getD .skip):=SC.mk' (by simp only [Tryz.f378,go_sem];rfl)
noncomputable def XV:ai:=⟨[0,1,2,3,4],[2,3],[],2,XU.1,[.tmp 4],0⟩
theorem ar7:aj Tryz.prog 378 XV:=SC.ak XU rfl (fn:=Tryz.f378) (by kernel_rfl) (by kernel_rfl)
noncomputable def s4:SC (Tryz.f4.body.getD .skip):=SC.mk' (by simp only [Tryz.f4,go_sem];rfl)
noncomputable def bV:ai:=⟨[0,1,9,5,11,54,7,8,18,6,14,15,16,21,34,10,50,63,71,80,85,94,100,13,61,17,160,162,178,4],[6,7,9,11,12,14],[],2,s4.1,[.tmp 4],1300⟩
theorem XW:aj Tryz.prog 4 bV:=SC.ak s4 rfl (fn:=Tryz.f4) (by kernel_rfl) (by kernel_rfl)
end Go.M
namespace Go.M
open Go Go.Proofs
open Go.Eng (SOp SOper SCode sizeP aggP zerosOf bytesP zeroVal stripCode stripOps stripOper strip stripParts kindsOf kinds2)
noncomputable def XY:SC (Tryz.f18.body.getD .skip):=SC.mk' (by simp only [Tryz.f18,go_sem];rfl)
noncomputable def XZ:ai:=⟨[0,1,2,4,7,8,9,3,19,36,5,6],[2,3,4,8],[],2,XY.1,[.cell 4 true 23,.tmp 5,.tmp 6],260⟩
theorem ar8:aj Tryz.prog 18 XZ:=SC.ak XY rfl (fn:=Tryz.f18) (by kernel_rfl) (by kernel_rfl)
noncomputable def X0:SC (Tryz.f19.body.getD .skip):=SC.mk' (by simp only [Tryz.f19,go_sem];rfl)
noncomputable def X3:ai:=⟨[0,1,6,8,2,5,7,9,10,21,32,45,3,4],[1,2,9],[],1,X0.1,[.cell 2 true 23,.tmp 3,.tmp 4],1105⟩
theorem ar9:aj Tryz.prog 19 X3:=SC.ak X0 rfl (fn:=Tryz.f19) (by kernel_rfl) (by kernel_rfl)
noncomputable def X4:SC (Tryz.f27.body.getD .skip):=SC.mk' (by simp only [Tryz.f27,go_sem];rfl)
noncomputable def X5:ai:=⟨[0,1,5,10,14,27,4],[],[],2,X4.1,[.tmp 4],0⟩
theorem asa:aj Tryz.prog 27 X5:=SC.ak X4 rfl (fn:=Tryz.f27) (by kernel_rfl) (by kernel_rfl)
noncomputable def X6:SC (Tryz.f32.body.getD .skip):=SC.mk' (by simp only [Tryz.f32,go_sem];rfl)
noncomputable def X7:ai:=⟨[0,4,1,3,9,18,2],[1],[],1,X6.1,[.tmp 2],0⟩
theorem ok32:aj Tryz.prog 32 X7:=SC.ak X6 rfl (fn:=Tryz.f32) (by kernel_rfl) (by kernel_rfl)
noncomputable def X8:SC (Tryz.f34.body.getD .skip):=SC.mk' (by simp only [Tryz.f34,go_sem];rfl)
noncomputable def X9:ai:=⟨[0,1,2,8,6,11,4,7,10,9,30,61,5],[2,4,6,7,8],[66],2,X8.1,[.cell 4 true 23,.tmp 5],1040⟩
theorem asb:aj Tryz.prog 34 X9:=SC.ak X8 rfl (fn:=Tryz.f34) (by kernel_rfl) (by kernel_rfl)
noncomputable def zo:SC (Tryz.f35.body.getD .skip):=SC.mk' (by simp only [Tryz.f35,go_sem];rfl)
noncomputable def Ya:ai:=⟨[0,1,2,9,8,27,33,6,7],[],[],3,zo.1,[.tmp 6,.tmp 7],0⟩
theorem Jh:aj Tryz.prog 35 Ya:=SC.ak zo rfl (fn:=Tryz.f35) (by kernel_rfl) (by kernel_rfl)
noncomputable def Yb:SC (Tryz.f40.body.getD .skip):=SC.mk' (by simp only [Tryz.f40,go_sem];rfl)
noncomputable def Yc:ai:=⟨[0,1,2,7,4,8,9,22,44,5,6],[2,4,7,9],[],2,Yb.1,[.cell 4 true 63,.tmp 5,.tmp 6],260⟩
theorem asc:aj Tryz.prog 40 Yc:=SC.ak Yb rfl (fn:=Tryz.f40) (by kernel_rfl) (by kernel_rfl)
noncomputable def s43:SC (Tryz.f43.body.getD .skip):=SC.mk' (by simp only [Tryz.f43,go_sem];rfl)
noncomputable def Yd:ai:=⟨[0,1,2,4,3],[1,2],[],1,s43.1,[.cell 2 true 63,.tmp 3],195⟩
theorem ase:aj Tryz.prog 43 Yd:=SC.ak s43 rfl (fn:=Tryz.f43) (by kernel_rfl) (by kernel_rfl)
noncomputable def s49:SC (Tryz.f49.body.getD .skip):=SC.mk' (by simp only [Tryz.f49,go_sem];rfl)
noncomputable def Ye:ai:=⟨[0,1,2,6],[],[],3,s49.1,[.tmp 6],0⟩
theorem asf:aj Tryz.prog 49 Ye:=SC.ak s49 rfl (fn:=Tryz.f49) (by kernel_rfl) (by kernel_rfl)
noncomputable def Yf:SC (Tryz.f52.body.getD .skip):=SC.mk' (by simp only [Tryz.f52,go_sem];rfl)
noncomputable def Yg:ai:=⟨[0,1,2,6,8,9,16,22,7],[6,8],[],3,Yf.1,[.cell 6 true 8,.tmp 7],65⟩
theorem asg:aj Tryz.prog 52 Yg:=SC.ak Yf rfl (fn:=Tryz.f52) (by kernel_rfl) (by kernel_rfl)
noncomputable def zu:SC (Tryz.f56.body.getD .skip):=SC.mk' (by simp only [Tryz.f56,go_sem];rfl)
noncomputable def Yh:ai:=⟨[0,4,3,8,2],[],[],1,zu.1,[.tmp 2],0⟩
theorem Jk:aj Tryz.prog 56 Yh:=SC.ak zu rfl (fn:=Tryz.f56) (by kernel_rfl) (by kernel_rfl)
noncomputable def Yi:SC (Tryz.f63.body.getD .skip):=SC.mk' (by simp only [Tryz.f63,go_sem];rfl)
noncomputable def Yj:ai:=⟨[0,1,2,3,11,8,9,12,4,5,22,10],[4,5,8,9],[],4,Yi.1,[.cell 8 true 11,.cell 9 true 26,.tmp 10],845⟩
theorem ash:aj Tryz.prog 63 Yj:=SC.ak Yi rfl (fn:=Tryz.f63) (by kernel_rfl) (by kernel_rfl)
noncomputable def Yk:SC (Tryz.f74.body.getD .skip):=SC.mk' (by simp only [Tryz.f74,go_sem];rfl)
noncomputable def Yl:ai:=⟨[0,1,2,4,6,7,13,3,105,10,30,11,16,17,22,31,64,14,15,84,91,18,101,106,113,120,8,9],[3,4,6,7,11,13,17],[],3,Yk.1,[.cell 6 true 11,.cell 7 true 63,.tmp 8,.tmp 9],910⟩
theorem asi:aj Tryz.prog 74 Yl:=SC.ak Yk rfl (fn:=Tryz.f74) (by kernel_rfl) (by kernel_rfl)
noncomputable def zf:SC (Tryz.f84.body.getD .skip):=SC.mk' (by simp only [Tryz.f84,go_sem];rfl)
noncomputable def Ym:ai:=⟨[0,1,2,40,8,38,20,32,39,41,10,6,7],[],[],3,zf.1,[.tmp 6,.tmp 7],0⟩
theorem Jc:aj Tryz.prog 84 Ym:=SC.ak zf rfl (fn:=Tryz.f84) (by kernel_rfl) (by kernel_rfl)
noncomputable def Yn:SC (Tryz.f90.body.getD .skip):=SC.mk' (by simp only [Tryz.f90,go_sem];rfl)
noncomputable def Yo:ai:=⟨[0,1,4],[],[],2,Yn.1,[.tmp 4],130⟩
theorem asj:aj Tryz.prog 90 Yo:=SC.ak Yn rfl (fn:=Tryz.f90) (by kernel_rfl) (by kernel_rfl)
noncomputable def Yp:SC (Tryz.f108.body.getD .skip):=SC.mk' (by simp only [Tryz.f108,go_sem];rfl)
noncomputable def Yq:ai:=⟨[0,1,2,3,4,8,18,35,11,45,48,9,10],[4,8],[],4,Yp.1,[.cell 8 true 11,.tmp 9,.tmp 10],65⟩
theorem asl:aj Tryz.prog 108 Yq:=SC.ak Yp rfl (fn:=Tryz.f108) (by kernel_rfl) (by kernel_rfl)
noncomputable def Yr:SC (Tryz.f141.body.getD .skip):=SC.mk' (by simp only [Tryz.f141,go_sem];rfl)
noncomputable def Yt:ai:=⟨[0,1,2,3],[2],[],2,Yr.1,[.tmp 3],0⟩
theorem asn:aj Tryz.prog 141 Yt:=SC.ak Yr rfl (fn:=Tryz.f141) (by kernel_rfl) (by kernel_rfl)
noncomputable def Yu:SC (Tryz.f159.body.getD .skip):=SC.mk' (by simp only [Tryz.f159,go_sem];rfl)
noncomputable def Yv:ai:=⟨[0,1,2,3,4,6,11,5],[2,3,4],[],2,Yu.1,[.cell 4 true 3,.tmp 5],260⟩
theorem aso:aj Tryz.prog 159 Yv:=SC.ak Yu rfl (fn:=Tryz.f159) (by kernel_rfl) (by kernel_rfl)
noncomputable def Yw:SC (Tryz.f162.body.getD .skip):=SC.mk' (by simp only [Tryz.f162,go_sem];rfl)
noncomputable def Yx:ai:=⟨[0,1,2,6,3,12,8,11,13,17,9,10,26,30,43,55,7],[3,6],[],3,Yw.1,[.cell 6 true 2,.tmp 7],455⟩
theorem asq:aj Tryz.prog 162 Yx:=SC.ak Yw rfl (fn:=Tryz.f162) (by kernel_rfl) (by kernel_rfl)
noncomputable def Yy:SC (Tryz.f165.body.getD .skip):=SC.mk' (by simp only [Tryz.f165,go_sem];rfl)
noncomputable def Yz:ai:=⟨[0,1,2,3,8,9,11,12,13,4,5,24,10],[4,5,8,9,11,12],[],4,Yy.1,[.cell 8 true 11,.cell 9 true 26,.tmp 10],780⟩
theorem asr:aj Tryz.prog 165 Yz:=SC.ak Yy rfl (fn:=Tryz.f165) (by kernel_rfl) (by kernel_rfl)
noncomputable def YA:SC (Tryz.f167.body.getD .skip):=SC.mk' (by simp only [Tryz.f167,go_sem];rfl)
noncomputable def YB:ai:=⟨[0,1,5,2,4],[2,4,5],[],2,YA.1,[.cell 4 true 10],0⟩
theorem ast:aj Tryz.prog 167 YB:=SC.ak YA rfl (fn:=Tryz.f167) (by kernel_rfl) (by kernel_rfl)
noncomputable def YC:SC (Tryz.f209.body.getD .skip):=SC.mk' (by simp only [Tryz.f209,go_sem];rfl)
noncomputable def YD:ai:=⟨[0,1,2],[],[],1,YC.1,[.tmp 2],195⟩
theorem asu:aj Tryz.prog 209 YD:=SC.ak YC rfl (fn:=Tryz.f209) (by kernel_rfl) (by kernel_rfl)
noncomputable def YE:SC (Tryz.f215.body.getD .skip):=SC.mk' (by simp only [Tryz.f215,go_sem];rfl)
noncomputable def YF:ai:=⟨[0,4,2],[],[],1,YE.1,[.tmp 2],0⟩
theorem asv:aj Tryz.prog 215 YF:=SC.ak YE rfl (fn:=Tryz.f215) (by kernel_rfl) (by kernel_rfl)
noncomputable def YG:SC (Tryz.f234.body.getD .skip):=SC.mk' (by simp only [Tryz.f234,go_sem];rfl)
noncomputable def YH:ai:=⟨[0,1,2,3,5,6,10,15,17,24,4],[2,3],[],2,YG.1,[.tmp 4],195⟩
theorem asw:aj Tryz.prog 234 YH:=SC.ak YG rfl (fn:=Tryz.f234) (by kernel_rfl) (by kernel_rfl)
noncomputable def YI:SC (Tryz.f246.body.getD .skip):=SC.mk' (by simp only [Tryz.f246,go_sem];rfl)
noncomputable def YJ:ai:=⟨[0,1,38,42,2],[1],[],1,YI.1,[.tmp 2],65⟩
theorem asx:aj Tryz.prog 246 YJ:=SC.ak YI rfl (fn:=Tryz.f246) (by kernel_rfl) (by kernel_rfl)
noncomputable def YK:SC (Tryz.f260.body.getD .skip):=SC.mk' (by simp only [Tryz.f260,go_sem];rfl)
noncomputable def YL:ai:=⟨[0,1,2,4],[2],[],2,YK.1,[.tmp 4],0⟩
theorem asy:aj Tryz.prog 260 YL:=SC.ak YK rfl (fn:=Tryz.f260) (by kernel_rfl) (by kernel_rfl)
noncomputable def YM:SC (Tryz.f267.body.getD .skip):=SC.mk' (by simp only [Tryz.f267,go_sem];rfl)
noncomputable def YN:ai:=⟨[0,2],[],[],1,YM.1,[.tmp 2],0⟩
theorem asz:aj Tryz.prog 267 YN:=SC.ak YM rfl (fn:=Tryz.f267) (by kernel_rfl) (by kernel_rfl)
noncomputable def YO:SC (Tryz.f279.body.getD .skip):=SC.mk' (by simp only [Tryz.f279,go_sem];rfl)
noncomputable def YP:ai:=⟨[0,1,2,4],[2],[],2,YO.1,[.tmp 4],0⟩
theorem asA:aj Tryz.prog 279 YP:=SC.ak YO rfl (fn:=Tryz.f279) (by kernel_rfl) (by kernel_rfl)
noncomputable def YQ:SC (Tryz.f283.body.getD .skip):=SC.mk' (by simp only [Tryz.f283,go_sem];rfl)
noncomputable def YR:ai:=⟨[0,4,2],[],[],1,YQ.1,[.tmp 2],0⟩
theorem asB:aj Tryz.prog 283 YR:=SC.ak YQ rfl (fn:=Tryz.f283) (by kernel_rfl) (by kernel_rfl)
noncomputable def YS:SC (Tryz.f299.body.getD .skip):=SC.mk' (by simp only [Tryz.f299,go_sem];rfl)
noncomputable def YT:ai:=⟨[0,1,6,5,11,12,13,16,19,4],[],[],2,YS.1,[.tmp 4],65⟩
theorem asC:aj Tryz.prog 299 YT:=SC.ak YS rfl (fn:=Tryz.f299) (by kernel_rfl) (by kernel_rfl)
noncomputable def YU:SC (Tryz.f304.body.getD .skip):=SC.mk' (by simp only [Tryz.f304,go_sem];rfl)
noncomputable def YV:ai:=⟨[0,1,2,4,6,7,15,3,9,11,56,12,13,16,10,32,36,47,49,73,90,94,101,109,8],[3,4,6,7,9,12],[],3,YU.1,[.cell 6 true 11,.cell 7 true 5,.tmp 8],130⟩
theorem asD:aj Tryz.prog 304 YV:=SC.ak YU rfl (fn:=Tryz.f304) (by kernel_rfl) (by kernel_rfl)
noncomputable def YW:SC (Tryz.f309.body.getD .skip):=SC.mk' (by simp only [Tryz.f309,go_sem];rfl)
noncomputable def YX:ai:=⟨[0,1,2,4,3,6,7,9,10,11,29,53,67,79,8],[3,4,6,7],[],3,YW.1,[.cell 6 true 11,.cell 7 true 26,.tmp 8],520⟩
theorem asE:aj Tryz.prog 309 YX:=SC.ak YW rfl (fn:=Tryz.f309) (by kernel_rfl) (by kernel_rfl)
noncomputable def YZ:SC (Tryz.f332.body.getD .skip):=SC.mk' (by simp only [Tryz.f332,go_sem];rfl)
noncomputable def Y0:ai:=⟨[0,1,8,5,7,9,16,4],[],[],2,YZ.1,[.tmp 4],65⟩
theorem asF:aj Tryz.prog 332 Y0:=SC.ak YZ rfl (fn:=Tryz.f332) (by kernel_rfl) (by kernel_rfl)
noncomputable def Y1:SC (Tryz.f337.body.getD .skip):=SC.mk' (by simp only [Tryz.f337,go_sem];rfl)
noncomputable def Y2:ai:=⟨[0,1,2,6],[],[],3,Y1.1,[.tmp 6],0⟩
theorem asG:aj Tryz.prog 337 Y2:=SC.ak Y1 rfl (fn:=Tryz.f337) (by kernel_rfl) (by kernel_rfl)
noncomputable def Y3:SC (Tryz.f371.body.getD .skip):=SC.mk' (by simp only [Tryz.f371,go_sem];rfl)
noncomputable def Y4:ai:=⟨[0,1,2,3,4],[2,3],[],2,Y3.1,[.tmp 4],130⟩
theorem asH:aj Tryz.prog 371 Y4:=SC.ak Y3 rfl (fn:=Tryz.f371) (by kernel_rfl) (by kernel_rfl)
noncomputable def Y5:SC (Tryz.f372.body.getD .skip):=SC.mk' (by simp only [Tryz.f372,go_sem];rfl)
noncomputable def Y6:ai:=⟨[0,1,8,5,3,7,9,16,4],[3],[],2,Y5.1,[.tmp 4],0⟩
theorem asI:aj Tryz.prog 372 Y6:=SC.ak Y5 rfl (fn:=Tryz.f372) (by kernel_rfl) (by kernel_rfl)
end Go.M
namespace Go.M
open Go Go.Proofs
open Go.Eng (SOp SOper SCode sizeP aggP zerosOf bytesP zeroVal stripCode stripOps stripOper strip stripParts kindsOf kinds2)
noncomputable def s6:SC (Tryz.f6.body.getD .skip):=SC.mk' (by simp only [Tryz.f6,go_sem];rfl)
noncomputable def Y7:ai:=⟨[0,1,2,6],[],[],3,s6.1,[.tmp 6],0⟩
theorem ok6:aj Tryz.prog 6 Y7:=SC.ak s6 rfl (fn:=Tryz.f6) (by kernel_rfl) (by kernel_rfl)
noncomputable def s13:SC (Tryz.f13.body.getD .skip):=SC.mk' (by simp only [Tryz.f13,go_sem];rfl)
noncomputable def Y8:ai:=⟨[0,1,6,7,5,12,16,75,4],[6,7],[],2,s13.1,[.tmp 4],65⟩
theorem asK:aj Tryz.prog 13 Y8:=SC.ak s13 rfl (fn:=Tryz.f13) (by kernel_rfl) (by kernel_rfl)
noncomputable def Y9:SC (Tryz.f14.body.getD .skip):=SC.mk' (by simp only [Tryz.f14,go_sem];rfl)
noncomputable def Za:ai:=⟨[0,1,2,3,4],[2,3],[],2,Y9.1,[.tmp 4],130⟩
theorem asL:aj Tryz.prog 14 Za:=SC.ak Y9 rfl (fn:=Tryz.f14) (by kernel_rfl) (by kernel_rfl)
noncomputable def Zb:SC (Tryz.f37.body.getD .skip):=SC.mk' (by simp only [Tryz.f37,go_sem];rfl)
noncomputable def Zc:ai:=⟨[0,1,2,11,5,6,63,86,3,38,109,129,12,23,28,37,62,76,85,108,116,117,128,4],[2,3],[],2,Zb.1,[.tmp 4],65⟩
theorem asM:aj Tryz.prog 37 Zc:=SC.ak Zb rfl (fn:=Tryz.f37) (by kernel_rfl) (by kernel_rfl)
noncomputable def Zd:SC (Tryz.f42.body.getD .skip):=SC.mk' (by simp only [Tryz.f42,go_sem];rfl)
noncomputable def Ze:ai:=⟨[0,1,6,13,2,11,9,12,14,26,4],[2,6],[],2,Zd.1,[.tmp 4],325⟩
theorem asN:aj Tryz.prog 42 Ze:=SC.ak Zd rfl (fn:=Tryz.f42) (by kernel_rfl) (by kernel_rfl)
noncomputable def Zf:SC (Tryz.f48.body.getD .skip):=SC.mk' (by simp only [Tryz.f48,go_sem];rfl)
noncomputable def Zg:ai:=⟨[0,1,5,10,14,25,4],[],[],2,Zf.1,[.tmp 4],0⟩
theorem asO:aj Tryz.prog 48 Zg:=SC.ak Zf rfl (fn:=Tryz.f48) (by kernel_rfl) (by kernel_rfl)
noncomputable def Zh:SC (Tryz.f65.body.getD .skip):=SC.mk' (by simp only [Tryz.f65,go_sem];rfl)
noncomputable def Zi:ai:=⟨[0,1,2,4],[2],[],2,Zh.1,[.tmp 4],520⟩
theorem asP:aj Tryz.prog 65 Zi:=SC.ak Zh rfl (fn:=Tryz.f65) (by kernel_rfl) (by kernel_rfl)
noncomputable def Zj:SC (Tryz.f66.body.getD .skip):=SC.mk' (by simp only [Tryz.f66,go_sem];rfl)
noncomputable def Zk:ai:=⟨[0,1,3,6,5,2,32],[1,2,3,4,6],[],1,Zj.1,[.cell 2 true 10],715⟩
theorem asQ:aj Tryz.prog 66 Zk:=SC.ak Zj rfl (fn:=Tryz.f66) (by kernel_rfl) (by kernel_rfl)
noncomputable def Zl:SC (Tryz.f93.body.getD .skip):=SC.mk' (by simp only [Tryz.f93,go_sem];rfl)
noncomputable def Zm:ai:=⟨[0,1,11,4,41,7,9,48,10,12,3,5,36,40,42,6,47,49,51,59,2],[1],[],1,Zl.1,[.tmp 2],195⟩
theorem asR:aj Tryz.prog 93 Zm:=SC.ak Zl rfl (fn:=Tryz.f93) (by kernel_rfl) (by kernel_rfl)
noncomputable def Zn:SC (Tryz.f98.body.getD .skip):=SC.mk' (by simp only [Tryz.f98,go_sem];rfl)
noncomputable def Zo:ai:=⟨[0,1,2,6],[],[],3,Zn.1,[.tmp 6],0⟩
theorem asS:aj Tryz.prog 98 Zo:=SC.ak Zn rfl (fn:=Tryz.f98) (by kernel_rfl) (by kernel_rfl)
noncomputable def Zp:SC (Tryz.f112.body.getD .skip):=SC.mk' (by simp only [Tryz.f112,go_sem];rfl)
noncomputable def Zq:ai:=⟨[0,1,2,4,12,6,7,11,13,3,26,8,9,10],[3,4,6,7,11,12],[],3,Zp.1,[.cell 6 true 11,.cell 7 true 63,.tmp 8,.tmp 9,.tmp 10],845⟩
theorem asT:aj Tryz.prog 112 Zq:=SC.ak Zp rfl (fn:=Tryz.f112) (by kernel_rfl) (by kernel_rfl)
noncomputable def Zr:SC (Tryz.f115.body.getD .skip):=SC.mk' (by simp only [Tryz.f115,go_sem];rfl)
noncomputable def Zt:ai:=⟨[0,1,2,5,10,4],[2],[],2,Zr.1,[.tmp 4],195⟩
theorem asU:aj Tryz.prog 115 Zt:=SC.ak Zr rfl (fn:=Tryz.f115) (by kernel_rfl) (by kernel_rfl)
noncomputable def Zu:SC (Tryz.f151.body.getD .skip):=SC.mk' (by simp only [Tryz.f151,go_sem];rfl)
noncomputable def Zv:ai:=⟨[0,1,5,2,9,12,4],[2],[],2,Zu.1,[.tmp 4],520⟩
theorem asV:aj Tryz.prog 151 Zv:=SC.ak Zu rfl (fn:=Tryz.f151) (by kernel_rfl) (by kernel_rfl)
noncomputable def Zw:SC (Tryz.f152.body.getD .skip):=SC.mk' (by simp only [Tryz.f152,go_sem];rfl)
noncomputable def Zx:ai:=⟨[0,2],[],[],1,Zw.1,[.tmp 2],65⟩
theorem asW:aj Tryz.prog 152 Zx:=SC.ak Zw rfl (fn:=Tryz.f152) (by kernel_rfl) (by kernel_rfl)
noncomputable def Zy:SC (Tryz.f160.body.getD .skip):=SC.mk' (by simp only [Tryz.f160,go_sem];rfl)
noncomputable def Zz:ai:=⟨[0,2],[],[],1,Zy.1,[.tmp 2],65⟩
theorem asX:aj Tryz.prog 160 Zz:=SC.ak Zy rfl (fn:=Tryz.f160) (by kernel_rfl) (by kernel_rfl)
noncomputable def ZA:SC (Tryz.f166.body.getD .skip):=SC.mk' (by simp only [Tryz.f166,go_sem];rfl)
noncomputable def ZB:ai:=⟨[0,1,2],[1,2],[],1,ZA.1,[.cell 2 true 6],0⟩
theorem asY:aj Tryz.prog 166 ZB:=SC.ak ZA rfl (fn:=Tryz.f166) (by kernel_rfl) (by kernel_rfl)
noncomputable def ZC:SC (Tryz.f171.body.getD .skip):=SC.mk' (by simp only [Tryz.f171,go_sem];rfl)
noncomputable def ZE:ai:=⟨[0,1,2,3,4,12,10,13,23,11],[10,12],[],5,ZC.1,[.cell 10 true 7,.tmp 11],130⟩
theorem asZ:aj Tryz.prog 171 ZE:=SC.ak ZC rfl (fn:=Tryz.f171) (by kernel_rfl) (by kernel_rfl)
noncomputable def zh:SC (Tryz.f207.body.getD .skip):=SC.mk' (by simp only [Tryz.f207,go_sem];rfl)
noncomputable def ZF:ai:=⟨[0,1,9,7,8,10,6,4],[],[],2,zh.1,[.tmp 4],0⟩
theorem Jd:aj Tryz.prog 207 ZF:=SC.ak zh rfl (fn:=Tryz.f207) (by kernel_rfl) (by kernel_rfl)
noncomputable def ZG:SC (Tryz.f245.body.getD .skip):=SC.mk' (by simp only [Tryz.f245,go_sem];rfl)
noncomputable def ZH:ai:=⟨[0,1,2,3,5,4,8,9,20,12,14,17,11,13,15,16,18,21,40,46,52,61,69,87,93,102,110,119,138,10],[4,5,8,9,11,12,14,16,17],[],4,ZG.1,[.cell 8 true 11,.cell 9 true 26,.tmp 10],715⟩
theorem as0:aj Tryz.prog 245 ZH:=SC.ak ZG rfl (fn:=Tryz.f245) (by kernel_rfl) (by kernel_rfl)
noncomputable def ZI:SC (Tryz.f247.body.getD .skip):=SC.mk' (by simp only [Tryz.f247,go_sem];rfl)
noncomputable def ZJ:ai:=⟨[0,1,5,9,18,4],[],[],2,ZI.1,[.tmp 4],0⟩
theorem as1:aj Tryz.prog 247 ZJ:=SC.ak ZI rfl (fn:=Tryz.f247) (by kernel_rfl) (by kernel_rfl)
noncomputable def ZK:SC (Tryz.f266.body.getD .skip):=SC.mk' (by simp only [Tryz.f266,go_sem];rfl)
noncomputable def ZL:ai:=⟨[0,4,1,3,10,2],[1],[],1,ZK.1,[.tmp 2],0⟩
theorem as2:aj Tryz.prog 266 ZL:=SC.ak ZK rfl (fn:=Tryz.f266) (by kernel_rfl) (by kernel_rfl)
noncomputable def ZM:SC (Tryz.f270.body.getD .skip):=SC.mk' (by simp only [Tryz.f270,go_sem];rfl)
noncomputable def ZN:ai:=⟨[0,1,2,9,3,8,7,10,14,22,38,6],[3,10],[],3,ZM.1,[.tmp 6],260⟩
theorem as3:aj Tryz.prog 270 ZN:=SC.ak ZM rfl (fn:=Tryz.f270) (by kernel_rfl) (by kernel_rfl)
noncomputable def ZO:SC (Tryz.f272.body.getD .skip):=SC.mk' (by simp only [Tryz.f272,go_sem];rfl)
noncomputable def ZP:ai:=⟨[0,1,2,4,3,6,7,10,21,9,38,42,53,55,8],[3,4,6,7],[],3,ZO.1,[.cell 6 true 11,.cell 7 true 5,.tmp 8],195⟩
theorem as4:aj Tryz.prog 272 ZP:=SC.ak ZO rfl (fn:=Tryz.f272) (by kernel_rfl) (by kernel_rfl)
noncomputable def ZQ:SC (Tryz.f276.body.getD .skip):=SC.mk' (by simp only [Tryz.f276,go_sem];rfl)
noncomputable def ZR:ai:=⟨[0,2],[],[],1,ZQ.1,[.tmp 2],0⟩
theorem as5:aj Tryz.prog 276 ZR:=SC.ak ZQ rfl (fn:=Tryz.f276) (by kernel_rfl) (by kernel_rfl)
noncomputable def ZT:SC (Tryz.f277.body.getD .skip):=SC.mk' (by simp only [Tryz.f277,go_sem];rfl)
noncomputable def ZU:ai:=⟨[0,1,2,3,7,17,6],[3],[],3,ZT.1,[.tmp 6],130⟩
theorem as6:aj Tryz.prog 277 ZU:=SC.ak ZT rfl (fn:=Tryz.f277) (by kernel_rfl) (by kernel_rfl)
noncomputable def ZV:SC (Tryz.f295.body.getD .skip):=SC.mk' (by simp only [Tryz.f295,go_sem];rfl)
noncomputable def ZW:ai:=⟨[0,1,4],[],[],2,ZV.1,[.tmp 4],65⟩
theorem as7:aj Tryz.prog 295 ZW:=SC.ak ZV rfl (fn:=Tryz.f295) (by kernel_rfl) (by kernel_rfl)
noncomputable def ZX:SC (Tryz.f296.body.getD .skip):=SC.mk' (by simp only [Tryz.f296,go_sem];rfl)
noncomputable def ZY:ai:=⟨[0,1,2,3,4],[2],[],2,ZX.1,[.tmp 4],130⟩
theorem as8:aj Tryz.prog 296 ZY:=SC.ak ZX rfl (fn:=Tryz.f296) (by kernel_rfl) (by kernel_rfl)
noncomputable def Z0:SC (Tryz.f314.body.getD .skip):=SC.mk' (by simp only [Tryz.f314,go_sem];rfl)
noncomputable def Z4:ai:=⟨[0,1,2,7,8,3,6,20],[3,6,7],[],3,Z0.1,[.cell 6 true 3],0⟩
theorem as9:aj Tryz.prog 314 Z4:=SC.ak Z0 rfl (fn:=Tryz.f314) (by kernel_rfl) (by kernel_rfl)
noncomputable def Z5:SC (Tryz.f320.body.getD .skip):=SC.mk' (by simp only [Tryz.f320,go_sem];rfl)
noncomputable def Z6:ai:=⟨[0,1,4,3,7,5,6,8,12,17,29,31,36,45,66,74,79,106,2],[1,4],[],1,Z5.1,[.tmp 2],130⟩
theorem ata:aj Tryz.prog 320 Z6:=SC.ak Z5 rfl (fn:=Tryz.f320) (by kernel_rfl) (by kernel_rfl)
noncomputable def Z7:SC (Tryz.f325.body.getD .skip):=SC.mk' (by simp only [Tryz.f325,go_sem];rfl)
noncomputable def Z8:ai:=⟨[0,1,2,4,5,13,3],[1,2,4],[],1,Z7.1,[.cell 2 true 26,.tmp 3],65⟩
theorem atb:aj Tryz.prog 325 Z8:=SC.ak Z7 rfl (fn:=Tryz.f325) (by kernel_rfl) (by kernel_rfl)
noncomputable def Z9:SC (Tryz.f347.body.getD .skip):=SC.mk' (by simp only [Tryz.f347,go_sem];rfl)
noncomputable def aac:ai:=⟨[0,1,2,3],[2],[],2,Z9.1,[.tmp 3],0⟩
theorem atc:aj Tryz.prog 347 aac:=SC.ak Z9 rfl (fn:=Tryz.f347) (by kernel_rfl) (by kernel_rfl)
noncomputable def aad:SC (Tryz.f348.body.getD .skip):=SC.mk' (by simp only [Tryz.f348,go_sem];rfl)
noncomputable def aae:ai:=⟨[0,1,4,11,23,30],[],[],2,aad.1,[],260⟩
theorem atd:aj Tryz.prog 348 aae:=SC.ak aad rfl (fn:=Tryz.f348) (by kernel_rfl) (by kernel_rfl)
noncomputable def aaf:SC (Tryz.f351.body.getD .skip):=SC.mk' (by simp only [Tryz.f351,go_sem];rfl)
noncomputable def aag:ai:=⟨[0,1,2,4,14,20,3],[1,2],[],1,aaf.1,[.cell 2 true 4,.tmp 3],0⟩
theorem ate:aj Tryz.prog 351 aag:=SC.ak aaf rfl (fn:=Tryz.f351) (by kernel_rfl) (by kernel_rfl)
noncomputable def aah:SC (Tryz.f365.body.getD .skip):=SC.mk' (by simp only [Tryz.f365,go_sem];rfl)
noncomputable def aai:ai:=⟨[0,1,19,4],[],[],2,aah.1,[.tmp 4],65⟩
theorem atf:aj Tryz.prog 365 aai:=SC.ak aah rfl (fn:=Tryz.f365) (by kernel_rfl) (by kernel_rfl)
noncomputable def aaj:SC (Tryz.f382.body.getD .skip):=SC.mk' (by simp only [Tryz.f382,go_sem];rfl)
noncomputable def aak:ai:=⟨[0,8,3,6,5,7,9,14,2],[],[],1,aaj.1,[.tmp 2],0⟩
theorem atg:aj Tryz.prog 382 aak:=SC.ak aaj rfl (fn:=Tryz.f382) (by kernel_rfl) (by kernel_rfl)
noncomputable def s15:SC (Tryz.f15.body.getD .skip):=SC.mk' (by simp only [Tryz.f15,go_sem];rfl)
noncomputable def aal:ai:=⟨[1,2,3,5,4,9,7,11,0],[1,2,3,4,8],[],0,s15.1,[.tmp 0],1235⟩
theorem aam:aj Tryz.prog 15 aal:=SC.ak s15 rfl (fn:=Tryz.f15) (by kernel_rfl) (by kernel_rfl)
noncomputable def aan:SC (Tryz.f379.body.getD .skip):=SC.mk' (by simp only [Tryz.f379,go_sem];rfl)
noncomputable def aao:ai:=⟨[0,1,5,11,31,43,4],[],[],2,aan.1,[.tmp 4],65⟩
theorem ath:aj Tryz.prog 379 aao:=SC.ak aan rfl (fn:=Tryz.f379) (by kernel_rfl) (by kernel_rfl)
end Go.M
namespace Go.M
open Go Go.Proofs
open Go.Eng (SOp SOper SCode sizeP aggP zerosOf bytesP zeroVal stripCode stripOps stripOper strip stripParts kindsOf kinds2)
noncomputable def s8:SC (Tryz.f8.body.getD .skip):=SC.mk' (by simp only [Tryz.f8,go_sem];rfl)
noncomputable def Dr:ai:=⟨[0,4,2,9,5,6,47,3],[2,4],[],1,s8.1,[.cell 2 true 4,.tmp 3],195⟩
theorem BP:aj Tryz.prog 8 Dr:=SC.ak s8 rfl (fn:=Tryz.f8) (by kernel_rfl) (by kernel_rfl)
noncomputable def s31:SC (Tryz.f31.body.getD .skip):=SC.mk' (by simp only [Tryz.f31,go_sem];rfl)
noncomputable def aaq:ai:=⟨[0,1,6,7,4,8,2,57,78,90,3],[1,2,4,6,8],[],1,s31.1,[.cell 2 true 11,.tmp 3],130⟩
theorem ati:aj Tryz.prog 31 aaq:=SC.ak s31 rfl (fn:=Tryz.f31) (by kernel_rfl) (by kernel_rfl)
noncomputable def s33:SC (Tryz.f33.body.getD .skip):=SC.mk' (by simp only [Tryz.f33,go_sem];rfl)
noncomputable def aas:ai:=⟨[0,4,1,6,7,8,3,5,19,2],[1,8],[],1,s33.1,[.tmp 2],65⟩
theorem atj:aj Tryz.prog 33 aas:=SC.ak s33 rfl (fn:=Tryz.f33) (by kernel_rfl) (by kernel_rfl)
noncomputable def s51:SC (Tryz.f51.body.getD .skip):=SC.mk' (by simp only [Tryz.f51,go_sem];rfl)
noncomputable def aau:ai:=⟨[0,2,4,5,12,3],[2,4],[],1,s51.1,[.cell 2 true 8,.tmp 3],65⟩
theorem atl:aj Tryz.prog 51 aau:=SC.ak s51 rfl (fn:=Tryz.f51) (by kernel_rfl) (by kernel_rfl)
noncomputable def s53:SC (Tryz.f53.body.getD .skip):=SC.mk' (by simp only [Tryz.f53,go_sem];rfl)
noncomputable def aav:ai:=⟨[0,2,9,3],[2],[],1,s53.1,[.cell 2 true 2,.tmp 3],0⟩
theorem atm:aj Tryz.prog 53 aav:=SC.ak s53 rfl (fn:=Tryz.f53) (by kernel_rfl) (by kernel_rfl)
noncomputable def s60:SC (Tryz.f60.body.getD .skip):=SC.mk' (by simp only [Tryz.f60,go_sem];rfl)
noncomputable def aax:ai:=⟨[0,1,2,3,7,4,6,36],[3,4,6,7],[],3,s60.1,[.cell 6 true 63],65⟩
theorem atn:aj Tryz.prog 60 aax:=SC.ak s60 rfl (fn:=Tryz.f60) (by kernel_rfl) (by kernel_rfl)
noncomputable def s69:SC (Tryz.f69.body.getD .skip):=SC.mk' (by simp only [Tryz.f69,go_sem];rfl)
noncomputable def aaz:ai:=⟨[0,1,2,7,4,6,17,28],[2,4,5,7],[],2,s69.1,[.cell 4 true 63],715⟩
theorem ato:aj Tryz.prog 69 aaz:=SC.ak s69 rfl (fn:=Tryz.f69) (by kernel_rfl) (by kernel_rfl)
noncomputable def s70:SC (Tryz.f70.body.getD .skip):=SC.mk' (by simp only [Tryz.f70,go_sem];rfl)
noncomputable def aaB:ai:=⟨[0,2,9,3],[2],[],1,s70.1,[.cell 2 true 3,.tmp 3],0⟩
theorem atp:aj Tryz.prog 70 aaB:=SC.ak s70 rfl (fn:=Tryz.f70) (by kernel_rfl) (by kernel_rfl)
noncomputable def s71:SC (Tryz.f71.body.getD .skip):=SC.mk' (by simp only [Tryz.f71,go_sem];rfl)
noncomputable def aaD:ai:=⟨[0,1,4],[],[],2,s71.1,[.tmp 4],0⟩
theorem atq:aj Tryz.prog 71 aaD:=SC.ak s71 rfl (fn:=Tryz.f71) (by kernel_rfl) (by kernel_rfl)
noncomputable def s89:SC (Tryz.f89.body.getD .skip):=SC.mk' (by simp only [Tryz.f89,go_sem];rfl)
noncomputable def aaF:ai:=⟨[0,5,8,3,6,7,9,27,2],[5],[],1,s89.1,[.tmp 2],0⟩
theorem atr:aj Tryz.prog 89 aaF:=SC.ak s89 rfl (fn:=Tryz.f89) (by kernel_rfl) (by kernel_rfl)
noncomputable def s92:SC (Tryz.f92.body.getD .skip):=SC.mk' (by simp only [Tryz.f92,go_sem];rfl)
noncomputable def aaH:ai:=⟨[0,1,3,4],[],[],2,s92.1,[.tmp 4],130⟩
theorem att:aj Tryz.prog 92 aaH:=SC.ak s92 rfl (fn:=Tryz.f92) (by kernel_rfl) (by kernel_rfl)
noncomputable def s95:SC (Tryz.f95.body.getD .skip):=SC.mk' (by simp only [Tryz.f95,go_sem];rfl)
noncomputable def aaJ:ai:=⟨[0],[0],[],0,s95.1,[.cell 0 true 4],0⟩
theorem atu:aj Tryz.prog 95 aaJ:=SC.ak s95 rfl (fn:=Tryz.f95) (by kernel_rfl) (by kernel_rfl)
noncomputable def s96:SC (Tryz.f96.body.getD .skip):=SC.mk' (by simp only [Tryz.f96,go_sem];rfl)
noncomputable def aaL:ai:=⟨[0,3,4,5,35,2],[],[],1,s96.1,[.tmp 2],780⟩
theorem atv:aj Tryz.prog 96 aaL:=SC.ak s96 rfl (fn:=Tryz.f96) (by kernel_rfl) (by kernel_rfl)
noncomputable def aaM:SC (Tryz.f116.body.getD .skip):=SC.mk' (by simp only [Tryz.f116,go_sem];rfl)
noncomputable def aaN:ai:=⟨[0,1,2,4,6,16,5],[2,4],[],2,aaM.1,[.cell 4 true 3,.tmp 5],130⟩
theorem atw:aj Tryz.prog 116 aaN:=SC.ak aaM rfl (fn:=Tryz.f116) (by kernel_rfl) (by kernel_rfl)
noncomputable def ze:SC (Tryz.f138.body.getD .skip):=SC.mk' (by simp only [Tryz.f138,go_sem];rfl)
noncomputable def aaO:ai:=⟨[0,1,2,9,8,26,32,6,7],[],[],3,ze.1,[.tmp 6,.tmp 7],0⟩
theorem Jb:aj Tryz.prog 138 aaO:=SC.ak ze rfl (fn:=Tryz.f138) (by kernel_rfl) (by kernel_rfl)
noncomputable def aaP:SC (Tryz.f142.body.getD .skip):=SC.mk' (by simp only [Tryz.f142,go_sem];rfl)
noncomputable def aaQ:ai:=⟨[0,4,2],[],[],1,aaP.1,[.tmp 2],0⟩
theorem atx:aj Tryz.prog 142 aaQ:=SC.ak aaP rfl (fn:=Tryz.f142) (by kernel_rfl) (by kernel_rfl)
noncomputable def aaR:SC (Tryz.f147.body.getD .skip):=SC.mk' (by simp only [Tryz.f147,go_sem];rfl)
noncomputable def aaS:ai:=⟨[0,3,4,5,6,28,50,60,86,114,133,139,153,2],[3],[],1,aaR.1,[.tmp 2],520⟩
theorem aty:aj Tryz.prog 147 aaS:=SC.ak aaR rfl (fn:=Tryz.f147) (by kernel_rfl) (by kernel_rfl)
noncomputable def aaT:SC (Tryz.f154.body.getD .skip):=SC.mk' (by simp only [Tryz.f154,go_sem];rfl)
noncomputable def aaU:ai:=⟨[0,1,2,3,9,5,4,10,8],[4,5,9],[],4,aaT.1,[.tmp 8],455⟩
theorem atz:aj Tryz.prog 154 aaU:=SC.ak aaT rfl (fn:=Tryz.f154) (by kernel_rfl) (by kernel_rfl)
noncomputable def aaV:SC (Tryz.f211.body.getD .skip):=SC.mk' (by simp only [Tryz.f211,go_sem];rfl)
noncomputable def aaW:ai:=⟨[0,1,2,4,14,5],[2,4],[],2,aaV.1,[.cell 4 true 4,.tmp 5],0⟩
theorem atA:aj Tryz.prog 211 aaW:=SC.ak aaV rfl (fn:=Tryz.f211) (by kernel_rfl) (by kernel_rfl)
noncomputable def aaX:SC (Tryz.f217.body.getD .skip):=SC.mk' (by simp only [Tryz.f217,go_sem];rfl)
noncomputable def aaY:ai:=⟨[0,1,2,4,9,5],[2,4],[],2,aaX.1,[.cell 4 true 8,.tmp 5],65⟩
theorem atC:aj Tryz.prog 217 aaY:=SC.ak aaX rfl (fn:=Tryz.f217) (by kernel_rfl) (by kernel_rfl)
noncomputable def aaZ:SC (Tryz.f227.body.getD .skip):=SC.mk' (by simp only [Tryz.f227,go_sem];rfl)
noncomputable def aa0:ai:=⟨[0,1,2],[1],[],1,aaZ.1,[.tmp 2],0⟩
theorem atD:aj Tryz.prog 227 aa0:=SC.ak aaZ rfl (fn:=Tryz.f227) (by kernel_rfl) (by kernel_rfl)
noncomputable def aa1:SC (Tryz.f230.body.getD .skip):=SC.mk' (by simp only [Tryz.f230,go_sem];rfl)
noncomputable def aa2:ai:=⟨[0,1,4],[],[],2,aa1.1,[.tmp 4],65⟩
theorem atE:aj Tryz.prog 230 aa2:=SC.ak aa1 rfl (fn:=Tryz.f230) (by kernel_rfl) (by kernel_rfl)
noncomputable def aa3:SC (Tryz.f239.body.getD .skip):=SC.mk' (by simp only [Tryz.f239,go_sem];rfl)
noncomputable def aa4:ai:=⟨[0,4,2],[],[],1,aa3.1,[.tmp 2],0⟩
theorem atF:aj Tryz.prog 239 aa4:=SC.ak aa3 rfl (fn:=Tryz.f239) (by kernel_rfl) (by kernel_rfl)
noncomputable def aa5:SC (Tryz.f248.body.getD .skip):=SC.mk' (by simp only [Tryz.f248,go_sem];rfl)
noncomputable def aa6:ai:=⟨[0,1,2,3,4,6,11,5],[2,3,4],[],2,aa5.1,[.cell 4 true 3,.tmp 5],260⟩
theorem atG:aj Tryz.prog 248 aa6:=SC.ak aa5 rfl (fn:=Tryz.f248) (by kernel_rfl) (by kernel_rfl)
noncomputable def aa7:SC (Tryz.f251.body.getD .skip):=SC.mk' (by simp only [Tryz.f251,go_sem];rfl)
noncomputable def aa8:ai:=⟨[0,1,6,7,8,3,4,5,13,19,31,43,49,55,61,81,85,96,2],[1],[],1,aa7.1,[.tmp 2],390⟩
theorem atH:aj Tryz.prog 251 aa8:=SC.ak aa7 rfl (fn:=Tryz.f251) (by kernel_rfl) (by kernel_rfl)
noncomputable def aa9:SC (Tryz.f273.body.getD .skip):=SC.mk' (by simp only [Tryz.f273,go_sem];rfl)
noncomputable def abb:ai:=⟨[0,1,2,4,3,6,7,9,20,37,54,58,8],[3,4,6,7],[],3,aa9.1,[.cell 6 true 11,.cell 7 true 5,.tmp 8],195⟩
theorem atI:aj Tryz.prog 273 abb:=SC.ak aa9 rfl (fn:=Tryz.f273) (by kernel_rfl) (by kernel_rfl)
noncomputable def abd:SC (Tryz.f305.body.getD .skip):=SC.mk' (by simp only [Tryz.f305,go_sem];rfl)
noncomputable def abe:ai:=⟨[0,1,6,3,5,2,12,24,4],[2,3],[],2,abd.1,[.tmp 4],0⟩
theorem atJ:aj Tryz.prog 305 abe:=SC.ak abd rfl (fn:=Tryz.f305) (by kernel_rfl) (by kernel_rfl)
noncomputable def abf:SC (Tryz.f306.body.getD .skip):=SC.mk' (by simp only [Tryz.f306,go_sem];rfl)
noncomputable def abg:ai:=⟨[0,1,2,4,3,14,6,7,9,13,10,11,27,12,58,93,8],[3,4,6,7,11,13],[],3,abf.1,[.cell 6 true 11,.cell 7 true 26,.tmp 8],195⟩
theorem atK:aj Tryz.prog 306 abg:=SC.ak abf rfl (fn:=Tryz.f306) (by kernel_rfl) (by kernel_rfl)
noncomputable def abh:SC (Tryz.f307.body.getD .skip):=SC.mk' (by simp only [Tryz.f307,go_sem];rfl)
noncomputable def abj:ai:=⟨[0,1,3,2,7,9,4,5,8,21,48,6],[2,3,4,5,9],[],2,abh.1,[.cell 4 true 11,.cell 5 true 26,.tmp 6],130⟩
theorem atL:aj Tryz.prog 307 abj:=SC.ak abh rfl (fn:=Tryz.f307) (by kernel_rfl) (by kernel_rfl)
noncomputable def abk:SC (Tryz.f312.body.getD .skip):=SC.mk' (by simp only [Tryz.f312,go_sem];rfl)
noncomputable def abl:ai:=⟨[0,1,2,6],[],[],3,abk.1,[.tmp 6],0⟩
theorem atM:aj Tryz.prog 312 abl:=SC.ak abk rfl (fn:=Tryz.f312) (by kernel_rfl) (by kernel_rfl)
noncomputable def abm:SC (Tryz.f313.body.getD .skip):=SC.mk' (by simp only [Tryz.f313,go_sem];rfl)
noncomputable def abn:ai:=⟨[0,1,2,3,5,6,10,15,22,28,4],[2,3],[],2,abm.1,[.tmp 4],195⟩
theorem atN:aj Tryz.prog 313 abn:=SC.ak abm rfl (fn:=Tryz.f313) (by kernel_rfl) (by kernel_rfl)
noncomputable def abo:SC (Tryz.f326.body.getD .skip):=SC.mk' (by simp only [Tryz.f326,go_sem];rfl)
noncomputable def abp:ai:=⟨[0,1,5,2],[1],[],1,abo.1,[.tmp 2],195⟩
theorem atO:aj Tryz.prog 326 abp:=SC.ak abo rfl (fn:=Tryz.f326) (by kernel_rfl) (by kernel_rfl)
noncomputable def abq:SC (Tryz.f338.body.getD .skip):=SC.mk' (by simp only [Tryz.f338,go_sem];rfl)
noncomputable def abr:ai:=⟨[0,1,4],[],[],2,abq.1,[.tmp 4],195⟩
theorem atP:aj Tryz.prog 338 abr:=SC.ak abq rfl (fn:=Tryz.f338) (by kernel_rfl) (by kernel_rfl)
noncomputable def abt:SC (Tryz.f342.body.getD .skip):=SC.mk' (by simp only [Tryz.f342,go_sem];rfl)
noncomputable def abu:ai:=⟨[0,1,2,16,7,6],[],[],3,abt.1,[.tmp 6],0⟩
theorem atQ:aj Tryz.prog 342 abu:=SC.ak abt rfl (fn:=Tryz.f342) (by kernel_rfl) (by kernel_rfl)
noncomputable def abv:SC (Tryz.f359.body.getD .skip):=SC.mk' (by simp only [Tryz.f359,go_sem];rfl)
noncomputable def abw:ai:=⟨[0,1,5,2,11,21,4],[2],[],2,abv.1,[.tmp 4],0⟩
theorem atS:aj Tryz.prog 359 abw:=SC.ak abv rfl (fn:=Tryz.f359) (by kernel_rfl) (by kernel_rfl)
noncomputable def abx:SC (Tryz.f377.body.getD .skip):=SC.mk' (by simp only [Tryz.f377,go_sem];rfl)
noncomputable def aby:ai:=⟨[0,1,2,12,3,10,13,8,9,11,26,34,52,58,67,6,7],[3],[],3,abx.1,[.tmp 6,.tmp 7],520⟩
theorem atT:aj Tryz.prog 377 aby:=SC.ak abx rfl (fn:=Tryz.f377) (by kernel_rfl) (by kernel_rfl)
noncomputable def s72:SC (Tryz.f72.body.getD .skip):=SC.mk' (by simp only [Tryz.f72,go_sem];rfl)
noncomputable def abz:ai:=⟨[0,2,3,4,5],[2,3],[],1,s72.1,[.cell 2 true 11,.cell 3 true 63,.tmp 4,.tmp 5],0⟩
theorem atU:aj Tryz.prog 72 abz:=SC.ak s72 rfl (fn:=Tryz.f72) (by kernel_rfl) (by kernel_rfl)
end Go.M
namespace Go.M
open Go Go.Proofs
open Go.Eng (SOp SOper SCode sizeP aggP zerosOf bytesP zeroVal stripCode stripOps stripOper strip stripParts kindsOf kinds2)
noncomputable def s7:SC (Tryz.f7.body.getD .skip):=SC.mk' (by simp only [Tryz.f7,go_sem];rfl)
noncomputable def abA:ai:=⟨[0,1,2,3,9,12,4,11,8,20,40],[4,8,9],[],4,s7.1,[.cell 8 true 23],1170⟩
theorem ok7:aj Tryz.prog 7 abA:=SC.ak s7 rfl (fn:=Tryz.f7) (by kernel_rfl) (by kernel_rfl)
noncomputable def s20:SC (Tryz.f20.body.getD .skip):=SC.mk' (by simp only [Tryz.f20,go_sem];rfl)
noncomputable def abB:ai:=⟨[0,1,2,9,8,19,31,34,6,7],[],[],3,s20.1,[.tmp 6,.tmp 7],0⟩
theorem Ji:aj Tryz.prog 20 abB:=SC.ak s20 rfl (fn:=Tryz.f20) (by kernel_rfl) (by kernel_rfl)
noncomputable def zx:SC (Tryz.f21.body.getD .skip):=SC.mk' (by simp only [Tryz.f21,go_sem];rfl)
noncomputable def abC:ai:=⟨[0,1,4,42,2,3],[1],[],1,zx.1,[.tmp 2,.tmp 3],130⟩
theorem Jm:aj Tryz.prog 21 abC:=SC.ak zx rfl (fn:=Tryz.f21) (by kernel_rfl) (by kernel_rfl)
noncomputable def s26:SC (Tryz.f26.body.getD .skip):=SC.mk' (by simp only [Tryz.f26,go_sem];rfl)
noncomputable def abE:ai:=⟨[0,1,3,6,9,7,8,5,10,11,4,12,31,36,59,64,69,88,93,105,108,139,142,152,161,2],[1,6],[],1,s26.1,[.tmp 2],65⟩
theorem atW:aj Tryz.prog 26 abE:=SC.ak s26 rfl (fn:=Tryz.f26) (by kernel_rfl) (by kernel_rfl)
noncomputable def zw:SC (Tryz.f36.body.getD .skip):=SC.mk' (by simp only [Tryz.f36,go_sem];rfl)
noncomputable def abF:ai:=⟨[0,2],[],[],1,zw.1,[.tmp 2],65⟩
theorem Jl:aj Tryz.prog 36 abF:=SC.ak zw rfl (fn:=Tryz.f36) (by kernel_rfl) (by kernel_rfl)
noncomputable def s46:SC (Tryz.f46.body.getD .skip):=SC.mk' (by simp only [Tryz.f46,go_sem];rfl)
noncomputable def abH:ai:=⟨[0,1,5,10,14,25,4],[],[],2,s46.1,[.tmp 4],0⟩
theorem atX:aj Tryz.prog 46 abH:=SC.ak s46 rfl (fn:=Tryz.f46) (by kernel_rfl) (by kernel_rfl)
noncomputable def s54:SC (Tryz.f54.body.getD .skip):=SC.mk' (by simp only [Tryz.f54,go_sem];rfl)
noncomputable def abJ:ai:=⟨[0,4,1,10,5,2],[1],[],1,s54.1,[.tmp 2],0⟩
theorem atY:aj Tryz.prog 54 abJ:=SC.ak s54 rfl (fn:=Tryz.f54) (by kernel_rfl) (by kernel_rfl)
noncomputable def s57:SC (Tryz.f57.body.getD .skip):=SC.mk' (by simp only [Tryz.f57,go_sem];rfl)
noncomputable def abL:ai:=⟨[0,1,2,6],[],[],3,s57.1,[.tmp 6],0⟩
theorem atZ:aj Tryz.prog 57 abL:=SC.ak s57 rfl (fn:=Tryz.f57) (by kernel_rfl) (by kernel_rfl)
noncomputable def s62:SC (Tryz.f62.body.getD .skip):=SC.mk' (by simp only [Tryz.f62,go_sem];rfl)
noncomputable def abN:ai:=⟨[0,1,4,6,7,14,22,5],[4,6],[],2,s62.1,[.cell 4 true 26,.tmp 5],130⟩
theorem at0:aj Tryz.prog 62 abN:=SC.ak s62 rfl (fn:=Tryz.f62) (by kernel_rfl) (by kernel_rfl)
noncomputable def s68:SC (Tryz.f68.body.getD .skip):=SC.mk' (by simp only [Tryz.f68,go_sem];rfl)
noncomputable def abO:ai:=⟨[0,1,2,3,4,29,7,27,10,24,28,30,6,51,61,67,5],[2,3,4],[],2,s68.1,[.cell 4 true 26,.tmp 5],195⟩
theorem at1:aj Tryz.prog 68 abO:=SC.ak s68 rfl (fn:=Tryz.f68) (by kernel_rfl) (by kernel_rfl)
noncomputable def abP:SC (Tryz.f101.body.getD .skip):=SC.mk' (by simp only [Tryz.f101,go_sem];rfl)
noncomputable def abQ:ai:=⟨[0,1,2,3,4,5,10,6,12,13,24,27,35,56,11],[5,6,10],[],5,abP.1,[.cell 10 true 8,.tmp 11],585⟩
theorem at5:aj Tryz.prog 101 abQ:=SC.ak abP rfl (fn:=Tryz.f101) (by kernel_rfl) (by kernel_rfl)
noncomputable def abR:SC (Tryz.f104.body.getD .skip):=SC.mk' (by simp only [Tryz.f104,go_sem];rfl)
noncomputable def abS:ai:=⟨[0,1,2,3,8,20,6],[3],[],3,abR.1,[.tmp 6],0⟩
theorem at6:aj Tryz.prog 104 abS:=SC.ak abR rfl (fn:=Tryz.f104) (by kernel_rfl) (by kernel_rfl)
noncomputable def abT:SC (Tryz.f105.body.getD .skip):=SC.mk' (by simp only [Tryz.f105,go_sem];rfl)
noncomputable def abU:ai:=⟨[0,1,2,6,7,11,15,4,5],[2],[],2,abT.1,[.tmp 4,.tmp 5],0⟩
theorem at7:aj Tryz.prog 105 abU:=SC.ak abT rfl (fn:=Tryz.f105) (by kernel_rfl) (by kernel_rfl)
noncomputable def abV:SC (Tryz.f117.body.getD .skip):=SC.mk' (by simp only [Tryz.f117,go_sem];rfl)
noncomputable def abW:ai:=⟨[0,1,2,3,6],[3,6],[],3,abV.1,[.cell 6 true 63],130⟩
theorem aua:aj Tryz.prog 117 abW:=SC.ak abV rfl (fn:=Tryz.f117) (by kernel_rfl) (by kernel_rfl)
noncomputable def za:SC (Tryz.f137.body.getD .skip):=SC.mk' (by simp only [Tryz.f137,go_sem];rfl)
noncomputable def abX:ai:=⟨[0,1,2,6],[],[],3,za.1,[.tmp 6],0⟩
theorem Ja:aj Tryz.prog 137 abX:=SC.ak za rfl (fn:=Tryz.f137) (by kernel_rfl) (by kernel_rfl)
noncomputable def abY:SC (Tryz.f146.body.getD .skip):=SC.mk' (by simp only [Tryz.f146,go_sem];rfl)
noncomputable def abZ:ai:=⟨[0,3,31,2],[],[],1,abY.1,[.tmp 2],130⟩
theorem aub:aj Tryz.prog 146 abZ:=SC.ak abY rfl (fn:=Tryz.f146) (by kernel_rfl) (by kernel_rfl)
noncomputable def ab0:SC (Tryz.f149.body.getD .skip):=SC.mk' (by simp only [Tryz.f149,go_sem];rfl)
noncomputable def ab1:ai:=⟨[0,3,6,4,5,44,71,106,134,156,2],[4,5],[],1,ab0.1,[.tmp 2],715⟩
theorem auc:aj Tryz.prog 149 ab1:=SC.ak ab0 rfl (fn:=Tryz.f149) (by kernel_rfl) (by kernel_rfl)
noncomputable def ab2:SC (Tryz.f170.body.getD .skip):=SC.mk' (by simp only [Tryz.f170,go_sem];rfl)
noncomputable def ab3:ai:=⟨[0,1,2],[1],[],1,ab2.1,[.tmp 2],0⟩
theorem aud:aj Tryz.prog 170 ab3:=SC.ak ab2 rfl (fn:=Tryz.f170) (by kernel_rfl) (by kernel_rfl)
noncomputable def ab4:SC (Tryz.f176.body.getD .skip):=SC.mk' (by simp only [Tryz.f176,go_sem];rfl)
noncomputable def ab5:ai:=⟨[0,1,5,6,2,7,9,3,4],[1,2,5,6],[],1,ab4.1,[.cell 2 true 8,.tmp 3,.tmp 4],585⟩
theorem aue:aj Tryz.prog 176 ab5:=SC.ak ab4 rfl (fn:=Tryz.f176) (by kernel_rfl) (by kernel_rfl)
noncomputable def ab6:SC (Tryz.f181.body.getD .skip):=SC.mk' (by simp only [Tryz.f181,go_sem];rfl)
noncomputable def ab7:ai:=⟨[0,1,2,4],[2],[],2,ab6.1,[.tmp 4],0⟩
theorem auf:aj Tryz.prog 181 ab7:=SC.ak ab6 rfl (fn:=Tryz.f181) (by kernel_rfl) (by kernel_rfl)
noncomputable def ab8:SC (Tryz.f214.body.getD .skip):=SC.mk' (by simp only [Tryz.f214,go_sem];rfl)
noncomputable def ab9:ai:=⟨[0,1,2,3,4,7,8,30,10,18,29,31,12,35,42,9],[4,7,8],[],4,ab8.1,[.cell 8 true 11,.tmp 9],195⟩
theorem aug:aj Tryz.prog 214 ab9:=SC.ak ab8 rfl (fn:=Tryz.f214) (by kernel_rfl) (by kernel_rfl)
noncomputable def acd:SC (Tryz.f218.body.getD .skip):=SC.mk' (by simp only [Tryz.f218,go_sem];rfl)
noncomputable def ace:ai:=⟨[0,2],[],[],1,acd.1,[.tmp 2],0⟩
theorem auh:aj Tryz.prog 218 ace:=SC.ak acd rfl (fn:=Tryz.f218) (by kernel_rfl) (by kernel_rfl)
noncomputable def acf:SC (Tryz.f232.body.getD .skip):=SC.mk' (by simp only [Tryz.f232,go_sem];rfl)
noncomputable def acg:ai:=⟨[0,1,2,4],[2],[],2,acf.1,[.tmp 4],0⟩
theorem aui:aj Tryz.prog 232 acg:=SC.ak acf rfl (fn:=Tryz.f232) (by kernel_rfl) (by kernel_rfl)
noncomputable def ach:SC (Tryz.f237.body.getD .skip):=SC.mk' (by simp only [Tryz.f237,go_sem];rfl)
noncomputable def aci:ai:=⟨[0,4,2],[],[],1,ach.1,[.tmp 2],0⟩
theorem auj:aj Tryz.prog 237 aci:=SC.ak ach rfl (fn:=Tryz.f237) (by kernel_rfl) (by kernel_rfl)
noncomputable def acj:SC (Tryz.f244.body.getD .skip):=SC.mk' (by simp only [Tryz.f244,go_sem];rfl)
noncomputable def ack:ai:=⟨[0,1,2,6,3],[1,2],[],1,acj.1,[.cell 2 true 5,.tmp 3],0⟩
theorem auk:aj Tryz.prog 244 ack:=SC.ak acj rfl (fn:=Tryz.f244) (by kernel_rfl) (by kernel_rfl)
noncomputable def acn:SC (Tryz.f257.body.getD .skip):=SC.mk' (by simp only [Tryz.f257,go_sem];rfl)
noncomputable def aco:ai:=⟨[0,2],[],[],1,acn.1,[.tmp 2],0⟩
theorem aul:aj Tryz.prog 257 aco:=SC.ak acn rfl (fn:=Tryz.f257) (by kernel_rfl) (by kernel_rfl)
noncomputable def acp:SC (Tryz.f281.body.getD .skip):=SC.mk' (by simp only [Tryz.f281,go_sem];rfl)
noncomputable def acr:ai:=⟨[0,2],[],[],1,acp.1,[.tmp 2],65⟩
theorem aum:aj Tryz.prog 281 acr:=SC.ak acp rfl (fn:=Tryz.f281) (by kernel_rfl) (by kernel_rfl)
noncomputable def acs:SC (Tryz.f302.body.getD .skip):=SC.mk' (by simp only [Tryz.f302,go_sem];rfl)
noncomputable def acu:ai:=⟨[0,1,2],[1],[],1,acs.1,[.tmp 2],0⟩
theorem aun:aj Tryz.prog 302 acu:=SC.ak acs rfl (fn:=Tryz.f302) (by kernel_rfl) (by kernel_rfl)
noncomputable def acv:SC (Tryz.f303.body.getD .skip):=SC.mk' (by simp only [Tryz.f303,go_sem];rfl)
noncomputable def acw:ai:=⟨[0,1,5,15,4],[],[],2,acv.1,[.tmp 4],260⟩
theorem auo:aj Tryz.prog 303 acw:=SC.ak acv rfl (fn:=Tryz.f303) (by kernel_rfl) (by kernel_rfl)
noncomputable def acy:SC (Tryz.f315.body.getD .skip):=SC.mk' (by simp only [Tryz.f315,go_sem];rfl)
noncomputable def acz:ai:=⟨[0,1,4,3,8,2],[1],[],1,acy.1,[.tmp 2],0⟩
theorem aup:aj Tryz.prog 315 acz:=SC.ak acy rfl (fn:=Tryz.f315) (by kernel_rfl) (by kernel_rfl)
noncomputable def acA:SC (Tryz.f318.body.getD .skip):=SC.mk' (by simp only [Tryz.f318,go_sem];rfl)
noncomputable def acB:ai:=⟨[0,1,2,3,6,4,10,8,9,17,23,26,31,39,45,68,11,13,7],[3,4,6],[],3,acA.1,[.cell 6 true 2,.tmp 7],195⟩
theorem auq:aj Tryz.prog 318 acB:=SC.ak acA rfl (fn:=Tryz.f318) (by kernel_rfl) (by kernel_rfl)
noncomputable def acC:SC (Tryz.f349.body.getD .skip):=SC.mk' (by simp only [Tryz.f349,go_sem];rfl)
noncomputable def acE:ai:=⟨[0,1,2,3,6,22,27,7,8],[3,6],[],3,acC.1,[.cell 6 true 11,.tmp 7,.tmp 8],65⟩
theorem aur:aj Tryz.prog 349 acE:=SC.ak acC rfl (fn:=Tryz.f349) (by kernel_rfl) (by kernel_rfl)
noncomputable def acF:SC (Tryz.f350.body.getD .skip):=SC.mk' (by simp only [Tryz.f350,go_sem];rfl)
noncomputable def acG:ai:=⟨[0,1,2,3,6,21,27,7],[3,6],[],3,acF.1,[.cell 6 true 11,.tmp 7],65⟩
theorem aus:aj Tryz.prog 350 acG:=SC.ak acF rfl (fn:=Tryz.f350) (by kernel_rfl) (by kernel_rfl)
noncomputable def acH:SC (Tryz.f361.body.getD .skip):=SC.mk' (by simp only [Tryz.f361,go_sem];rfl)
noncomputable def acI:ai:=⟨[0,4,5,3,8,12,20,24,35,39,52,2],[],[],1,acH.1,[.tmp 2],65⟩
theorem aut:aj Tryz.prog 361 acI:=SC.ak acH rfl (fn:=Tryz.f361) (by kernel_rfl) (by kernel_rfl)
noncomputable def acJ:SC (Tryz.f362.body.getD .skip):=SC.mk' (by simp only [Tryz.f362,go_sem];rfl)
noncomputable def acK:ai:=⟨[0,1,5,9,18,4],[],[],2,acJ.1,[.tmp 4],0⟩
theorem auu:aj Tryz.prog 362 acK:=SC.ak acJ rfl (fn:=Tryz.f362) (by kernel_rfl) (by kernel_rfl)
noncomputable def acL:SC (Tryz.f374.body.getD .skip):=SC.mk' (by simp only [Tryz.f374,go_sem];rfl)
noncomputable def acM:ai:=⟨[0,1,2,9,4],[2],[],2,acL.1,[.tmp 4],0⟩
theorem auv:aj Tryz.prog 374 acM:=SC.ak acL rfl (fn:=Tryz.f374) (by kernel_rfl) (by kernel_rfl)
noncomputable def acN:SC (Tryz.f380.body.getD .skip):=SC.mk' (by simp only [Tryz.f380,go_sem];rfl)
noncomputable def acO:ai:=⟨[0,1,2,7,6],[],[],3,acN.1,[.tmp 6],0⟩
theorem auw:aj Tryz.prog 380 acO:=SC.ak acN rfl (fn:=Tryz.f380) (by kernel_rfl) (by kernel_rfl)
end Go.M
namespace Go.M
open Go Go.Proofs
open Go.Eng (SOp SOper SCode sizeP aggP zerosOf bytesP zeroVal stripCode stripOps stripOper strip stripParts kindsOf kinds2)
noncomputable def s11:SC (Tryz.f11.body.getD .skip):=SC.mk' (by simp only [Tryz.f11,go_sem];rfl)
noncomputable def acP:ai:=⟨[0,1,2,3,12,15,4,17,8,14,16,5,6,33,18,19,53,9,10,11],[4,5,6,8,12,16,17],[],4,s11.1,[.cell 8 true 11,.tmp 9,.tmp 10,.tmp 11],1040⟩
theorem auy:aj Tryz.prog 11 acP:=SC.ak s11 rfl (fn:=Tryz.f11) (by kernel_rfl) (by kernel_rfl)
noncomputable def s25:SC (Tryz.f25.body.getD .skip):=SC.mk' (by simp only [Tryz.f25,go_sem];rfl)
noncomputable def acR:ai:=⟨[0,1,2,4,3,6,7,26,10,11,13,17,12,27,36,53,65,8,9],[3,4,6,7],[],3,s25.1,[.cell 6 true 11,.cell 7 true 63,.tmp 8,.tmp 9],975⟩
theorem auz:aj Tryz.prog 25 acR:=SC.ak s25 rfl (fn:=Tryz.f25) (by kernel_rfl) (by kernel_rfl)
noncomputable def s41:SC (Tryz.f41.body.getD .skip):=SC.mk' (by simp only [Tryz.f41,go_sem];rfl)
noncomputable def acT:ai:=⟨[0,1,2],[1,2],[],1,s41.1,[.cell 2 true 3],0⟩
theorem auA:aj Tryz.prog 41 acT:=SC.ak s41 rfl (fn:=Tryz.f41) (by kernel_rfl) (by kernel_rfl)
noncomputable def s50:SC (Tryz.f50.body.getD .skip):=SC.mk' (by simp only [Tryz.f50,go_sem];rfl)
noncomputable def acV:ai:=⟨[0,1,6,7,4,8,19,24,46,5],[4,6],[],2,s50.1,[.cell 4 true 3,.tmp 5],0⟩
theorem auB:aj Tryz.prog 50 acV:=SC.ak s50 rfl (fn:=Tryz.f50) (by kernel_rfl) (by kernel_rfl)
noncomputable def s64:SC (Tryz.f64.body.getD .skip):=SC.mk' (by simp only [Tryz.f64,go_sem];rfl)
noncomputable def acX:ai:=⟨[0,1,2],[1,2],[],1,s64.1,[.cell 2 true 6],0⟩
theorem auC:aj Tryz.prog 64 acX:=SC.ak s64 rfl (fn:=Tryz.f64) (by kernel_rfl) (by kernel_rfl)
noncomputable def zn:SC (Tryz.f86.body.getD .skip):=SC.mk' (by simp only [Tryz.f86,go_sem];rfl)
noncomputable def acY:ai:=⟨[0,1,13,5,10,12,14,24,4],[],[],2,zn.1,[.tmp 4],0⟩
theorem Jg:aj Tryz.prog 86 acY:=SC.ak zn rfl (fn:=Tryz.f86) (by kernel_rfl) (by kernel_rfl)
noncomputable def s91:SC (Tryz.f91.body.getD .skip):=SC.mk' (by simp only [Tryz.f91,go_sem];rfl)
noncomputable def ac0:ai:=⟨[0,1,2,3],[2],[],2,s91.1,[.tmp 3],0⟩
theorem auD:aj Tryz.prog 91 ac0:=SC.ak s91 rfl (fn:=Tryz.f91) (by kernel_rfl) (by kernel_rfl)
noncomputable def s99:SC (Tryz.f99.body.getD .skip):=SC.mk' (by simp only [Tryz.f99,go_sem];rfl)
noncomputable def ac2:ai:=⟨[0,1,2,3,4,8,5,10,21,29,12,9],[4,5,8,11],[],4,s99.1,[.cell 8 true 8,.tmp 9],585⟩
theorem auE:aj Tryz.prog 99 ac2:=SC.ak s99 rfl (fn:=Tryz.f99) (by kernel_rfl) (by kernel_rfl)
noncomputable def ac3:SC (Tryz.f103.body.getD .skip):=SC.mk' (by simp only [Tryz.f103,go_sem];rfl)
noncomputable def ac4:ai:=⟨[0,1,2,8,3],[1,2],[],1,ac3.1,[.cell 2 true 26,.tmp 3],130⟩
theorem auF:aj Tryz.prog 103 ac4:=SC.ak ac3 rfl (fn:=Tryz.f103) (by kernel_rfl) (by kernel_rfl)
noncomputable def ac5:SC (Tryz.f107.body.getD .skip):=SC.mk' (by simp only [Tryz.f107,go_sem];rfl)
noncomputable def ac6:ai:=⟨[0,1,2,3,7,4,6,36],[3,4,6,7],[],3,ac5.1,[.cell 6 true 63],65⟩
theorem auG:aj Tryz.prog 107 ac6:=SC.ak ac5 rfl (fn:=Tryz.f107) (by kernel_rfl) (by kernel_rfl)
noncomputable def ac7:SC (Tryz.f118.body.getD .skip):=SC.mk' (by simp only [Tryz.f118,go_sem];rfl)
noncomputable def ac8:ai:=⟨[0,1,6,5,9,4,8,10,11,13,14,2,12,7,29,43,59,65,89,106,114,143,3],[1,2,4,5,6,7,11,14],[],1,ac7.1,[.cell 2 true 63,.tmp 3],650⟩
theorem auH:aj Tryz.prog 118 ac8:=SC.ak ac7 rfl (fn:=Tryz.f118) (by kernel_rfl) (by kernel_rfl)
noncomputable def ac9:SC (Tryz.f124.body.getD .skip):=SC.mk' (by simp only [Tryz.f124,go_sem];rfl)
noncomputable def ada:ai:=⟨[0,1,2,4,9,5],[2,4],[],2,ac9.1,[.cell 4 true 4,.tmp 5],65⟩
theorem auI:aj Tryz.prog 124 ada:=SC.ak ac9 rfl (fn:=Tryz.f124) (by kernel_rfl) (by kernel_rfl)
noncomputable def adb:SC (Tryz.f143.body.getD .skip):=SC.mk' (by simp only [Tryz.f143,go_sem];rfl)
noncomputable def ade:ai:=⟨[0,3,30,32,47,57,2],[],[],1,adb.1,[.tmp 2],325⟩
theorem auJ:aj Tryz.prog 143 ade:=SC.ak adb rfl (fn:=Tryz.f143) (by kernel_rfl) (by kernel_rfl)
noncomputable def adf:SC (Tryz.f144.body.getD .skip):=SC.mk' (by simp only [Tryz.f144,go_sem];rfl)
noncomputable def adg:ai:=⟨[0,3,8,7,4,5,22,38,6,78,92,112,145,2],[5,7],[],1,adf.1,[.tmp 2],260⟩
theorem auK:aj Tryz.prog 144 adg:=SC.ak adf rfl (fn:=Tryz.f144) (by kernel_rfl) (by kernel_rfl)
noncomputable def adh:SC (Tryz.f173.body.getD .skip):=SC.mk' (by simp only [Tryz.f173,go_sem];rfl)
noncomputable def adi:ai:=⟨[0,1,2,4,3,6,7,11,17,20,34,43,5],[2,3,4],[],2,adh.1,[.cell 4 true 8,.tmp 5],585⟩
theorem auL:aj Tryz.prog 173 adi:=SC.ak adh rfl (fn:=Tryz.f173) (by kernel_rfl) (by kernel_rfl)
noncomputable def adj:SC (Tryz.f174.body.getD .skip):=SC.mk' (by simp only [Tryz.f174,go_sem];rfl)
noncomputable def adk:ai:=⟨[0,1,2,18,26,4],[2],[],2,adj.1,[.tmp 4],130⟩
theorem auM:aj Tryz.prog 174 adk:=SC.ak adj rfl (fn:=Tryz.f174) (by kernel_rfl) (by kernel_rfl)
noncomputable def adl:SC (Tryz.f177.body.getD .skip):=SC.mk' (by simp only [Tryz.f177,go_sem];rfl)
noncomputable def adm:ai:=⟨[0,1,3,7,11,2],[1],[],1,adl.1,[.tmp 2],455⟩
theorem auN:aj Tryz.prog 177 adm:=SC.ak adl rfl (fn:=Tryz.f177) (by kernel_rfl) (by kernel_rfl)
noncomputable def adn:SC (Tryz.f210.body.getD .skip):=SC.mk' (by simp only [Tryz.f210,go_sem];rfl)
noncomputable def ado:ai:=⟨[0,1],[],[],2,adn.1,[],0⟩
theorem auO:aj Tryz.prog 210 ado:=SC.ak adn rfl (fn:=Tryz.f210) (by kernel_rfl) (by kernel_rfl)
noncomputable def adp:SC (Tryz.f221.body.getD .skip):=SC.mk' (by simp only [Tryz.f221,go_sem];rfl)
noncomputable def adq:ai:=⟨[0,1,2,3,4,8,7,10,11,17,23,39,9],[4,7,8],[],4,adp.1,[.cell 8 true 11,.tmp 9],455⟩
theorem auP:aj Tryz.prog 221 adq:=SC.ak adp rfl (fn:=Tryz.f221) (by kernel_rfl) (by kernel_rfl)
noncomputable def adr:SC (Tryz.f226.body.getD .skip):=SC.mk' (by simp only [Tryz.f226,go_sem];rfl)
noncomputable def adt:ai:=⟨[0,1,4,14,12,3,5,6,10,13,15,23,25,30,35,57,61,2],[1,4],[],1,adr.1,[.tmp 2],325⟩
theorem auQ:aj Tryz.prog 226 adt:=SC.ak adr rfl (fn:=Tryz.f226) (by kernel_rfl) (by kernel_rfl)
noncomputable def adu:SC (Tryz.f229.body.getD .skip):=SC.mk' (by simp only [Tryz.f229,go_sem];rfl)
noncomputable def adv:ai:=⟨[0,13,1,3,11,5,12,14,2],[1,5],[],1,adu.1,[.tmp 2],260⟩
theorem auR:aj Tryz.prog 229 adv:=SC.ak adu rfl (fn:=Tryz.f229) (by kernel_rfl) (by kernel_rfl)
noncomputable def adw:SC (Tryz.f240.body.getD .skip):=SC.mk' (by simp only [Tryz.f240,go_sem];rfl)
noncomputable def adx:ai:=⟨[0,1,2,4,5],[2],[],2,adw.1,[.tmp 4,.tmp 5],260⟩
theorem auS:aj Tryz.prog 240 adx:=SC.ak adw rfl (fn:=Tryz.f240) (by kernel_rfl) (by kernel_rfl)
noncomputable def ady:SC (Tryz.f254.body.getD .skip):=SC.mk' (by simp only [Tryz.f254,go_sem];rfl)
noncomputable def adz:ai:=⟨[0,2],[],[],1,ady.1,[.tmp 2],0⟩
theorem auT:aj Tryz.prog 254 adz:=SC.ak ady rfl (fn:=Tryz.f254) (by kernel_rfl) (by kernel_rfl)
noncomputable def adA:SC (Tryz.f265.body.getD .skip):=SC.mk' (by simp only [Tryz.f265,go_sem];rfl)
noncomputable def adB:ai:=⟨[0,1,2],[1],[],1,adA.1,[.tmp 2],260⟩
theorem auU:aj Tryz.prog 265 adB:=SC.ak adA rfl (fn:=Tryz.f265) (by kernel_rfl) (by kernel_rfl)
noncomputable def adC:SC (Tryz.f269.body.getD .skip):=SC.mk' (by simp only [Tryz.f269,go_sem];rfl)
noncomputable def adD:ai:=⟨[0,2],[],[],1,adC.1,[.tmp 2],0⟩
theorem auV:aj Tryz.prog 269 adD:=SC.ak adC rfl (fn:=Tryz.f269) (by kernel_rfl) (by kernel_rfl)
noncomputable def adE:SC (Tryz.f275.body.getD .skip):=SC.mk' (by simp only [Tryz.f275,go_sem];rfl)
noncomputable def adF:ai:=⟨[0,1,3],[],[],2,adE.1,[.tmp 3],0⟩
theorem auW:aj Tryz.prog 275 adF:=SC.ak adE rfl (fn:=Tryz.f275) (by kernel_rfl) (by kernel_rfl)
noncomputable def adG:SC (Tryz.f289.body.getD .skip):=SC.mk' (by simp only [Tryz.f289,go_sem];rfl)
noncomputable def adH:ai:=⟨[0,1,7,3,6,8,4,2],[1],[],1,adG.1,[.tmp 2],65⟩
theorem auX:aj Tryz.prog 289 adH:=SC.ak adG rfl (fn:=Tryz.f289) (by kernel_rfl) (by kernel_rfl)
noncomputable def adI:SC (Tryz.f290.body.getD .skip):=SC.mk' (by simp only [Tryz.f290,go_sem];rfl)
noncomputable def adJ:ai:=⟨[0,1,38,42,2],[1],[],1,adI.1,[.tmp 2],65⟩
theorem auY:aj Tryz.prog 290 adJ:=SC.ak adI rfl (fn:=Tryz.f290) (by kernel_rfl) (by kernel_rfl)
noncomputable def adK:SC (Tryz.f292.body.getD .skip):=SC.mk' (by simp only [Tryz.f292,go_sem];rfl)
noncomputable def adL:ai:=⟨[0,1,15,4,13,11,14,16,28,2],[1,4],[],1,adK.1,[.tmp 2],130⟩
theorem auZ:aj Tryz.prog 292 adL:=SC.ak adK rfl (fn:=Tryz.f292) (by kernel_rfl) (by kernel_rfl)
noncomputable def adM:SC (Tryz.f298.body.getD .skip):=SC.mk' (by simp only [Tryz.f298,go_sem];rfl)
noncomputable def adN:ai:=⟨[0,1,2,4],[2],[],2,adM.1,[.tmp 4],130⟩
theorem au0:aj Tryz.prog 298 adN:=SC.ak adM rfl (fn:=Tryz.f298) (by kernel_rfl) (by kernel_rfl)
noncomputable def adO:SC (Tryz.f328.body.getD .skip):=SC.mk' (by simp only [Tryz.f328,go_sem];rfl)
noncomputable def adP:ai:=⟨[0,1,5,21,4],[],[],2,adO.1,[.tmp 4],195⟩
theorem au1:aj Tryz.prog 328 adP:=SC.ak adO rfl (fn:=Tryz.f328) (by kernel_rfl) (by kernel_rfl)
noncomputable def adQ:SC (Tryz.f330.body.getD .skip):=SC.mk' (by simp only [Tryz.f330,go_sem];rfl)
noncomputable def adR:ai:=⟨[0,1,2,3,6,9,10,23,26,7,8],[3,6],[],3,adQ.1,[.cell 6 true 11,.tmp 7,.tmp 8],130⟩
theorem au2:aj Tryz.prog 330 adR:=SC.ak adQ rfl (fn:=Tryz.f330) (by kernel_rfl) (by kernel_rfl)
noncomputable def adS:SC (Tryz.f352.body.getD .skip):=SC.mk' (by simp only [Tryz.f352,go_sem];rfl)
noncomputable def adT:ai:=⟨[0,1,2,3,4,7,8,10,16,40,9],[4,7,8],[],4,adS.1,[.cell 8 true 11,.tmp 9],130⟩
theorem au3:aj Tryz.prog 352 adT:=SC.ak adS rfl (fn:=Tryz.f352) (by kernel_rfl) (by kernel_rfl)
noncomputable def adU:SC (Tryz.f354.body.getD .skip):=SC.mk' (by simp only [Tryz.f354,go_sem];rfl)
noncomputable def adV:ai:=⟨[0,1,2,4,9,5],[2,4],[],2,adU.1,[.cell 4 true 8,.tmp 5],65⟩
theorem au4:aj Tryz.prog 354 adV:=SC.ak adU rfl (fn:=Tryz.f354) (by kernel_rfl) (by kernel_rfl)
noncomputable def adW:SC (Tryz.f375.body.getD .skip):=SC.mk' (by simp only [Tryz.f375,go_sem];rfl)
noncomputable def adX:ai:=⟨[0,1,2,3,6,11],[3,6],[],3,adW.1,[.cell 6 true 11],0⟩
theorem au5:aj Tryz.prog 375 adX:=SC.ak adW rfl (fn:=Tryz.f375) (by kernel_rfl) (by kernel_rfl)
noncomputable def adY:SC (Tryz.f376.body.getD .skip):=SC.mk' (by simp only [Tryz.f376,go_sem];rfl)
noncomputable def adZ:ai:=⟨[0,1,2,3,15,23,6],[3],[],3,adY.1,[.tmp 6],65⟩
theorem au6:aj Tryz.prog 376 adZ:=SC.ak adY rfl (fn:=Tryz.f376) (by kernel_rfl) (by kernel_rfl)
noncomputable def ad1:SC (Tryz.f344.body.getD .skip):=SC.mk' (by simp only [Tryz.f344,go_sem];rfl)
noncomputable def ad2:ai:=⟨[0,1,2,3],[2],[],2,ad1.1,[.tmp 3],0⟩
theorem au7:aj Tryz.prog 344 ad2:=SC.ak ad1 rfl (fn:=Tryz.f344) (by kernel_rfl) (by kernel_rfl)
end Go.M
namespace Go.M
open Go Go.Proofs
noncomputable section
def hkN (f:Nat):FC:=J8
theorem ad3 [aY]:gu Tryz.prog hkN:=fun g=>anz
end
end Go.M
