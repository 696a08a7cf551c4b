/-
  Part of a proof: lemmas and definitions of this work.
  No condition.
-/
import Derived.Test.YthhjbngoibmpgaaGreatH26
import Derived.Test.YthhjbngoibmpgaaGreatH07
import Derived.Test.YthhjbngoibmpgaaGreatH08
import Derived.KernelRfl
set_option linter.all false
set_option maxRecDepth 100000
set_option maxHeartbeats 8000000
namespace Go.Eng
open Go Go.Proofs
noncomputable def QZ:List (vX Tryz.prog):=[.mk' Za,.mk' Ms,.mk' Eu,.mk' Mt,.mk' Mv,.mk' Mw,.mk' Mx,.mk' MB,.mk' MC,.mk' ME,.mk' MF,.mk' MG,.mk' MH,.mk' MI,.mk' MK,.mk' ML,.mk' nU,.mk' Ay,.mk' MO,.mk' MP,.mk' MQ,.mk' MR,.mk' MU,.mk' MV,.mk' MW,.mk' MX,.mk' MZ,.mk' M0,.mk' M4,.mk' M5,.mk' M6,.mk' M8,.mk' M9,.mk' Na,.mk' Fe,.mk' Nc,.mk' Nf,.mk' Ng,.mk' Nh,.mk' Fp,.mk' Ni,.mk' Nk,.mk' Fs,.mk' Nn,.mk' AB,.mk' Nq,.mk' Ns,.mk' Nt,.mk' Nu,.mk' FB,.mk' Nv,.mk' AL,.mk' Nw,.mk' Ny,.mk' Nz,.mk' NA,.mk' NC,.mk' ND,.mk' NE,.mk' NF,.mk' NG,.mk' NH,.mk' NI,.mk' NJ,.mk' sS,.mk' AO,.mk' FU,.mk' NM,.mk' NN,.mk' FX,.mk' NP,.mk' NQ,.mk' NS,.mk' F3,.mk' NT,.mk' NU,.mk' NV,.mk' NW,.mk' NY,.mk' AU,.mk' Gf,.mk' NZ,.mk' N7,.mk' N9,.mk' Gu]
noncomputable def Ch (f:FuncId):Option nT:=Jp QZ f
theorem Jt:xU Tryz.prog Ch:=QX QZ
def yZ:List (Nat×Nat×Nat):=[(113,3,1),(210,77,4),(295,88,9)]
theorem Ju:∀ p ∈ yZ,∀ xs:List (List AV),xs.length<=10000->dW Tryz.prog p.1 [.sl p.2.2 xs] [] [] (.own 4 p.2.2 0 xs.length) [] [.row p.2.1 p.2.2 xs]:=by
 unfold yZ
 exact List.forall_mem_cons.2 ⟨fun xs h=>Js Ay (by decide) xs h (by decide),List.forall_mem_cons.2 ⟨fun xs h=>Js AB (by decide) xs h (by decide),List.forall_mem_cons.2 ⟨fun xs h=>Js AO (by decide) xs h (by decide),fun _ h=>(by cases h)⟩⟩⟩
noncomputable def Q0:RunT:=Jl (Jo [67] (vC (yY yZ) Ch (exec (yY yZ) Ch 400))) (yY yZ)
theorem ae3:fK Tryz.prog Q0:=aeZ (ae0 (Av (Jm Ju) Jt (Ml (Jm Ju) Jt 400))) (Jm Ju)
theorem awk:Es Q0 Ch 400 14 []=some (Bo true):=by kernel_rfl
theorem ae5:Fn Tryz.prog 14 [] [] (Bo true) [] []:=WV ae3 Jt awk
end Go.Eng
