/-
  The ways of SettleInvalid, run by the machine.
  The list's numbers come in as what the oracle says of each draw.
-/
import Derived.Test.YtpfhpakpcjfopaaGreatI19
import Derived.KernelRfl
set_option linter.all false
set_option maxRecDepth 100000
set_option maxHeartbeats 8000000
namespace Go.M
open Go Go.Proofs
theorem av4 [aB] (k:Int):WA (qg k) (z 0) (z 32) 32 k:=by intro _ _ _ _ _ _ _;show _=_;kernel_rfl
theorem av5 [aB] (k:Int):WB (gJ k) (z 0) (z 32) 96 k:=by intro _ _ _ _;show _=_;kernel_rfl
theorem av6 [aB] (k:Int):WA (gJ k) (z 64) (z 0) 96 k:=by intro _ _ _ _ _ _ _;show _=_;kernel_rfl
theorem av7 [aB] (k:Int):WB (eX k) (z 64) (z 0) 128 k:=by intro _ _ _ _;show _=_;kernel_rfl
theorem av8 [aB] (k:Int):WA (eX k) (z 96) (z 64) 128 k:=by intro _ _ _ _ _ _ _;show _=_;kernel_rfl
theorem av9 [aB] (k:Int):WB (jK k) (z 32) (z 64) 64 k:=by intro _ _ _ _;show _=_;kernel_rfl
theorem awc [aB] (k:Int):WA (gK k) (z 32) (z 32) 96 k:=by intro _ _ _ _ _ _ _;show _=_;kernel_rfl
theorem awd [aB] (k:Int):WB (eY k) (z 32) (z 32) 128 k:=by intro _ _ _ _;show _=_;kernel_rfl
theorem awe [aB] (k:Int):WA (eY k) (z 96) (z 0) 128 k:=by intro _ _ _ _ _ _ _;show _=_;kernel_rfl
end Go.M
