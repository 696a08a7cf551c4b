/-
  The ways of SettleInvalid, run by the machine.
  The list's numbers come in as what the oracle says of each draw.
-/
import Derived.Test.YtpfhpakpcjfopaaGreatI19
import Derived.KernelRfl
set_option linter.all false
set_option maxRecDepth 100000
set_option maxHeartbeats 8000000
namespace Go.M
open Go Go.Proofs
theorem avN [aB] (k:Int):WB (qg k) (z 0) (z 0) 32 k:=by intro _ _ _ _;show _=_;kernel_rfl
theorem avO [aB] (k:Int):WA (jJ k) (z 0) (z 64) 64 k:=by intro _ _ _ _ _ _ _;show _=_;kernel_rfl
theorem avP [aB] (k:Int):WB (gJ k) (z 32) (z 64) 96 k:=by intro _ _ _ _;show _=_;kernel_rfl
theorem avQ [aB] (k:Int):WA (eX k) (z 0) (z 32) 128 k:=by intro _ _ _ _ _ _ _;show _=_;kernel_rfl
theorem avR [aB] (k:Int):WB (eX k) (z 96) (z 32) 128 k:=by intro _ _ _ _;show _=_;kernel_rfl
theorem avS [aB] (k:Int):WA (jK k) (z 0) (z 0) 64 k:=by intro _ _ _ _ _ _ _;show _=_;kernel_rfl
theorem avT [aB] (k:Int):WB (gK k) (z 32) (z 0) 96 k:=by intro _ _ _ _;show _=_;kernel_rfl
theorem avU [aB] (k:Int):WA (gK k) (z 64) (z 64) 96 k:=by intro _ _ _ _ _ _ _;show _=_;kernel_rfl
theorem avV [aB] (k:Int):WB (eY k) (z 64) (z 64) 128 k:=by intro _ _ _ _;show _=_;kernel_rfl
end Go.M
