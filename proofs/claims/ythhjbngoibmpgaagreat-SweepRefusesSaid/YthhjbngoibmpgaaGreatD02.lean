/-
  Part of a proof: lemmas and definitions of this work.
  No condition.
-/
import Derived.Test.YthhjbngoibmpgaaGreatA50
import Derived.Test.YthhjbngoibmpgaaGreatA07
import Derived.Test.YthhjbngoibmpgaaGreatD00
import Derived.Test.YthhjbngoibmpgaaGreatA08
import Derived.KernelRfl
set_option linter.all false
set_option maxRecDepth 100000
set_option maxHeartbeats 8000000
namespace Go.Eng
open Go Go.Proofs
noncomputable def xA:List (rG Tryz.prog):=[Ec,q23,Ed,Ee,.mk' LZ,.mk' L6,Ef,Eg,.mk' adO,q46,Eh,Ei,Ej,Em,En,Eo,.mk' CZ,.mk' Me,.mk' X4,ap6,Ep,.mk' aat,ap7,.mk' Av,Er,Es,Et,Eu,Ew,Ey,Ez,EA,EB,.mk' Mf,.mk' Mg,.mk' Mh,.mk' Mi,.mk' Mj,.mk' Mk,ap8,ap9,EC,ED,.mk' Mr,.mk' Ms,.mk' aax,.mk' aay,EF,EG,EH,EI,EJ,EK,EL,EM,.mk' Aw,EN,EO,EP,EQ,ER,ES,.mk' SA,.mk' Mv,.mk' Mw,ET,EU,EW,.mk' Te,.mk' Az,aqa,aqb,EX,aqc,.mk' aaG,.mk' ME,.mk' MF,.mk' aaH,.mk' aaI,.mk' aaJ,EY,EZ,E5,E8,E9,Fa,Fb,Fe,Ff,Fg,.mk' AA,Fh,Fj,.mk' TW,.mk' TY,Fp,Fq,.mk' AJ,Fs,.mk' AL,.mk' aaT,aqd,Fu,aqe,aqf,aqg,.mk' aaV,.mk' aaX,.mk' Uu,Fv,Fw,Fx,Fy,.mk' UH,.mk' UI,Fz,aqh,aqi,aqj,FB,FC,aqk,aql,aqm,aqn,FD,FE,.mk' Vj,aqo,aqp,aqr,FH,aqs,aqt,aqu,aqv,aqw,aqx,FI,aqy,aqz,aqA,aqB]
noncomputable def iI (f:FuncId):Option oq:=DZ xA f
theorem jo:wm Tryz.prog iI:=N9 xA
def kZ:List (Nat×Nat×Nat):=[(113,3,1),(210,77,4),(255,239,8),(295,88,9),(337,123,7),(340,253,2)]
theorem rH:∀ p ∈ kZ,∀ xs:List (List AV),xs.length<=10000->gu Tryz.prog p.1 [.sl p.2.2 xs] [] [] (.own 4 p.2.2 0 xs.length) [] [.row p.2.1 p.2.2 xs]:=by
 unfold kZ
 exact List.forall_mem_cons.2 ⟨fun xs h=>jD Av (by decide) xs h (by decide),List.forall_mem_cons.2 ⟨fun xs h=>jD Aw (by decide) xs h (by decide),List.forall_mem_cons.2 ⟨fun xs h=>jD Az (by decide) xs h (by decide),List.forall_mem_cons.2 ⟨fun xs h=>jD AA (by decide) xs h (by decide),List.forall_mem_cons.2 ⟨fun xs h=>jD AJ (by decide) xs h (by decide),List.forall_mem_cons.2 ⟨fun xs h=>jD AL (by decide) xs h (by decide),fun _ h=>(by cases h)⟩⟩⟩⟩⟩⟩
noncomputable def qy:RunT:=o8 (zB [252] (sG (rF kZ) iI (exec (rF kZ) iI 400))) (rF kZ)
theorem vB:fI Tryz.prog qy:=rE (DY (uF (vz rH) jo (yw (vz rH) jo 400))) (vz rH)
theorem FU:ou qy iI 400 46 []=some (Bo true):=by kernel_rfl
theorem aqG:Fn Tryz.prog 46 [] [] (Bo true) [] []:=P9 vB jo FU
end Go.Eng
