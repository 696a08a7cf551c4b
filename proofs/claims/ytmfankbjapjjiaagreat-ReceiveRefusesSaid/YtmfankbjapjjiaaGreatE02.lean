/-
  Part of a proof: lemmas and definitions of this work.
  No condition.
-/
import Derived.Test.YtmfankbjapjjiaaGreatA50
import Derived.Test.YtmfankbjapjjiaaGreatA07
import Derived.Test.YtmfankbjapjjiaaGreatE00
import Derived.Test.YtmfankbjapjjiaaGreatA08
import Derived.KernelRfl
set_option linter.all false
set_option maxRecDepth 100000
set_option maxHeartbeats 8000000
namespace Go.Eng
open Go Go.Proofs
noncomputable def rF:List (oW Tryz.prog):=[.mk' asi,q16,.mk' JE,q24,Ky,Kz,.mk' aqW,q45,q46,q47,q48,.mk' Dl,XB,zF,zG,zI,.mk' Qh,XP,.mk' JF,zJ,zK,XJ,KA,zL,KL,q79,q80,q81,.mk' Qj,.mk' JG,.mk' JH,.mk' JI,.mk' JJ,.mk' JK,KC,zN,zO,zP,zQ,zR,XQ,.mk' Mj,.mk' JL,zS,zT,zU,.mk' Qv,aqB,.mk' aaB,KD,KE,KF,KG,zV,zW,aqC,aqD,.mk' JM,.mk' JN,KH,KI,.mk' vY,zX,zY,zZ,z8,Aa,Ab,.mk' Mk,Ac,Ad,Ae,.mk' QC,.mk' kX,.mk' Ml,.mk' QE,Af,Ag,.mk' Mq,.mk' aaK,.mk' aaM,Ah,XR,Ai,Aj,KJ,aqE,aqF,aqG,.mk' Ms,Ak,Al,Am,Ao,Ap,Aq,Ar,.mk' vZ,Au,Av,Aw,Ay,Az,.mk' wh,.mk' wm,.mk' wo,AA,.mk' uF,.mk' Mv,AB,AJ,AL,.mk' Mw,AO,.mk' QJ,.mk' Mx,XT,XU,aqH,aqI,.mk' MB,aqJ,aqK,.mk' ME,AP,AQ,AR,AU,AX,AY,AZ,A7,.mk' wG,A8,.mk' QL,.mk' QN,.mk' QS,.mk' QU,.mk' QW,.mk' QY,.mk' Q0,.mk' Q6,.mk' Q8,.mk' Ra,.mk' Rh,.mk' Rn,.mk' Rq,.mk' Rz,.mk' MI,A9,Ba,Bb,.mk' RB,XV,XW,XY,aqL,aqM,.mk' ajj,aqN,aqO,Bc,Bd,Be,.mk' RD,.mk' RG,.mk' RI,.mk' MK,.mk' MN,.mk' RL,.mk' RQ,.mk' RU,.mk' RX,.mk' R3,.mk' R5,.mk' R7,.mk' Sb,.mk' Sj,.mk' Sz,.mk' SG,Bf,XZ,X0,.mk' ajG,Bg,X3,aqP,.mk' ajH,aqQ,Bh,Bj,.mk' qP,.mk' S9,.mk' Tc,.mk' Te,.mk' Tg,.mk' Tk,.mk' Tt,.mk' Tw,.mk' TD,.mk' TH,.mk' TJ,.mk' TM,.mk' TP,.mk' TR,X4,aqR,aqS,.mk' TY,.mk' Ua,.mk' Ud,.mk' Uf,.mk' Uh,.mk' Uj,.mk' Um,.mk' Uo,.mk' Ur,.mk' MS,.mk' Ut,.mk' Uy,.mk' UA,.mk' UG,.mk' UI,aqT,aqU,.mk' UN,.mk' UQ,.mk' UU,.mk' UX,.mk' U3,.mk' U6,.mk' Va,.mk' Vd,.mk' Vf,.mk' Vl,.mk' Vn,.mk' Vp,.mk' Vr,.mk' Vt,.mk' Vv]
noncomputable def mG (f:FuncId):Option lG:=D9 rF f
theorem rG:qL Tryz.prog mG:=Kv rF
def lC:List (Nat×Nat×Nat):=[(143,3,1),(194,175,4),(205,85,7),(206,234,8),(207,295,2),(250,104,9)]
theorem vo:∀ p ∈ lC,∀ xs:List (List AV),xs.length<=10000->fP Tryz.prog p.1 [.sl p.2.2 xs] [] [] (.own 4 p.2.2 0 xs.length) [] [.row p.2.1 p.2.2 xs]:=by
 unfold lC
 exact List.forall_mem_cons.2 ⟨fun xs h=>iJ vY (by decide) xs h (by decide),List.forall_mem_cons.2 ⟨fun xs h=>iJ vZ (by decide) xs h (by decide),List.forall_mem_cons.2 ⟨fun xs h=>iJ wh (by decide) xs h (by decide),List.forall_mem_cons.2 ⟨fun xs h=>iJ wm (by decide) xs h (by decide),List.forall_mem_cons.2 ⟨fun xs h=>iJ wo (by decide) xs h (by decide),List.forall_mem_cons.2 ⟨fun xs h=>iJ wG (by decide) xs h (by decide),fun _ h=>(by cases h)⟩⟩⟩⟩⟩⟩
noncomputable def KM:List AV:=[.agg [I 2,I 1,I 3,I 3,I 1,I 0,I 1,I 0],I 1]
noncomputable def KN:AV:= .agg [.sl 9 [[I 0,Bo true,I 0,I 65535,.sl 7 [[I 1,I 47383,I 0,I 0,I 0,I 0,.v (.string ⟨#[109]⟩)],[I 0,I 0,I 0,I 0,I 0,I 0,.v (.string ⟨#[]⟩)],[I 0,I 0,I 0,I 0,I 0,I 0,.v (.string ⟨#[]⟩)]],I 0,I 1,.v (.slice none 0 0),.v (.slice none 0 0)],[I 0,Bo false,I 0,I 0,.sl 7 [[I 0,I 0,I 0,I 0,I 0,I 0,.v (.string ⟨#[]⟩)],[I 0,I 0,I 0,I 0,I 0,I 0,.v (.string ⟨#[]⟩)],[I 0,I 0,I 0,I 0,I 0,I 0,.v (.string ⟨#[]⟩)]],I 0,I 0,.v (.slice none 0 0),.v (.slice none 0 0)]],.sl 4 [[I 2,I 0,I 1,I 0],[I 0,I 0,I 0,I 0]],I 0,I 3,.v (.slice none 0 0),I 1,.sl 3 [[I 0,I 65535,I 0]],.sl 1 [[I (-1)],[I (-1)]],I 0,I 0,I 2]
theorem X5:qM (xB lC) mG 400 25 KM=some KN:=by kernel_rfl
noncomputable def Ec:RunT:=zw (Eb 25 KM KN) (xB lC)
theorem Og:gF Tryz.prog Ec:=Ku (Od (Oe (D8 vo) rG X5)) (D8 vo)
theorem Bl:qM Ec mG 400 16 []=some (Bo true):=by kernel_rfl
theorem aq0:Fn Tryz.prog 16 [] [] (Bo true) [] []:=Qa Og rG Bl
end Go.Eng
