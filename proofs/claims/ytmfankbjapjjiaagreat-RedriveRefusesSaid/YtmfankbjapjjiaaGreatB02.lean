/-
  Part of a proof: lemmas and definitions of this work.
  No condition.
-/
import Derived.Test.YtmfankbjapjjiaaGreatA50
import Derived.Test.YtmfankbjapjjiaaGreatA07
import Derived.Test.YtmfankbjapjjiaaGreatB00
import Derived.Test.YtmfankbjapjjiaaGreatA08
import Derived.KernelRfl
set_option linter.all false
set_option maxRecDepth 100000
set_option maxHeartbeats 8000000
namespace Go.Eng
open Go Go.Proofs
noncomputable def rF:List (oW Tryz.prog):=[.mk' ok9,q10,.mk' JE,.mk' apO,q22,q23,q24,Ky,q26,Kz,.mk' Dl,XB,zF,zG,q58,zI,q60,.mk' JF,zJ,zK,KA,zL,.mk' JG,.mk' JH,.mk' JI,.mk' JJ,.mk' JK,KC,zN,zO,zP,q99,apH,apI,apJ,apK,zQ,zR,.mk' JL,zS,zT,zU,XC,XD,KD,KE,KF,KG,zV,zW,.mk' JM,.mk' JN,KH,KI,.mk' vY,zX,zY,zZ,z8,Aa,Ab,.mk' ai3,.mk' Mk,XE,Ac,XF,Ad,Ae,.mk' Ml,Af,Ag,.mk' Mq,Ah,Ai,Aj,KJ,.mk' aaO,Ak,Al,Am,Ao,Ap,Aq,Ar,.mk' vZ,apL,Au,Av,Aw,apM,Ay,Az,.mk' ai6,.mk' wh,.mk' wm,.mk' wo,XG,AA,.mk' Mv,AB,AJ,AL,.mk' Mw,AO,.mk' aaZ,.mk' QJ,.mk' Mx,.mk' MB,AP,AQ,AR,AU,AX,AY,AZ,A7,.mk' wG,A8,.mk' ai8,.mk' ai9,XH,.mk' MI,A9,Ba,Bb,.mk' RB,Bc,Bd,Be,.mk' RD,Bf,Bg,Bh,Bj]
noncomputable def mG (f:FuncId):Option lG:=D9 rF f
theorem rG:qL Tryz.prog mG:=Kv rF
def lC:List (Nat×Nat×Nat):=[(143,3,1),(194,175,4),(205,85,7),(206,234,8),(207,295,2),(250,104,9)]
theorem vo:∀ p ∈ lC,∀ xs:List (List AV),xs.length<=10000->fP Tryz.prog p.1 [.sl p.2.2 xs] [] [] (.own 4 p.2.2 0 xs.length) [] [.row p.2.1 p.2.2 xs]:=by
 unfold lC
 exact List.forall_mem_cons.2 ⟨fun xs h=>iJ vY (by decide) xs h (by decide),List.forall_mem_cons.2 ⟨fun xs h=>iJ vZ (by decide) xs h (by decide),List.forall_mem_cons.2 ⟨fun xs h=>iJ wh (by decide) xs h (by decide),List.forall_mem_cons.2 ⟨fun xs h=>iJ wm (by decide) xs h (by decide),List.forall_mem_cons.2 ⟨fun xs h=>iJ wo (by decide) xs h (by decide),List.forall_mem_cons.2 ⟨fun xs h=>iJ wG (by decide) xs h (by decide),fun _ h=>(by cases h)⟩⟩⟩⟩⟩⟩
theorem Bl:qM (xB lC) mG 400 10 []=some (Bo true):=by kernel_rfl
theorem apS:Fn Tryz.prog 10 [] [] (Bo true) [] []:=Qa (D8 vo) rG Bl
end Go.Eng
