/-
  The ways of SettleInvalid, run by the machine.
  The list's numbers come in as what the oracle says of each draw.
-/
import Derived.Test.YtpfhpakpcjfopaaGreatI19
import Derived.KernelRfl
set_option linter.all false
set_option maxRecDepth 100000
set_option maxHeartbeats 8000000
namespace Go.M
open Go Go.Proofs
theorem axw [aB] (k:Int):WB (jJ k) (z 0) (z 32) 64 k:=by intro _ _ _ _;show _=_;kernel_rfl
theorem axx [aB] (k:Int):WA (gJ k) (z 0) (z 0) 96 k:=by intro _ _ _ _ _ _ _;show _=_;kernel_rfl
theorem axy [aB] (k:Int):WB (eX k) (z 0) (z 0) 128 k:=by intro _ _ _ _;show _=_;kernel_rfl
theorem axz [aB] (k:Int):WA (eX k) (z 32) (z 64) 128 k:=by intro _ _ _ _ _ _ _;show _=_;kernel_rfl
theorem axA [aB] (k:Int):WB (qh k) (z 0) (z 64) 32 k:=by intro _ _ _ _;show _=_;kernel_rfl
theorem axB [aB] (k:Int):WA (jK k) (z 32) (z 32) 64 k:=by intro _ _ _ _ _ _ _;show _=_;kernel_rfl
theorem axC [aB] (k:Int):WB (gK k) (z 64) (z 32) 96 k:=by intro _ _ _ _;show _=_;kernel_rfl
theorem axD [aB] (k:Int):WA (eY k) (z 32) (z 0) 128 k:=by intro _ _ _ _ _ _ _;show _=_;kernel_rfl
end Go.M
