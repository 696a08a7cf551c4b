/-
  awake() of the base of SettleInvalid gives back true, and leaves what was there.
  The list's numbers come in as what the oracle says of each draw.
-/
import Derived.Test.YtpfhpakpcjfopaaGreatI17
import Derived.Test.YtpfhpakpcjfopaaGreatI12
import Derived.KernelRfl
set_option linter.all false
set_option maxRecDepth 100000
set_option maxHeartbeats 8000000
namespace Go.M
open Go Go.Proofs
section
local instance ctT:aY:=⟨fun _=>True⟩
theorem avl:gU ((lV hkN code oJ 15).f [] (h0 []) LV)=True:=by kernel_rfl
theorem avm (w:World):Calls Tryz.prog 15 #[] w fun e w'=>e= .returned (.bool true)/\Go.RowKit.Below w.heap.size w w':=by
 have h:=au8 15
 have hd:aU Vz [] (#[]:Array Value).toList:=dA.2 rfl
 generalize hc:lV hkN code oJ 15=c at h
 have hr:=avl
 rw [hc] at hr
 exact top h (Eq.mpr hr trivial) hd w trivial
end
theorem avn [aY]:iy Tryz.prog 15 LX:=anl aam.enters avm
noncomputable def aea [aB]:Nat->FC:=SN (lV hkB ad9 oJ) 15 LX
theorem gW [aB]:gu Tryz.prog aea:=anm (Gp avj (fun g F h=>avk h) oJ) avn
end Go.M
