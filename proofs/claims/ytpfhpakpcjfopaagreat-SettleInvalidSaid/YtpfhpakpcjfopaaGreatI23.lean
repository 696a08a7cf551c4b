/-
  The ways of SettleInvalid, run by the machine.
  The list's numbers come in as what the oracle says of each draw.
-/
import Derived.Test.YtpfhpakpcjfopaaGreatI19
import Derived.KernelRfl
set_option linter.all false
set_option maxRecDepth 100000
set_option maxHeartbeats 8000000
namespace Go.M
open Go Go.Proofs
theorem avW [aB] (k:Int):WB (jJ k) (z 0) (z 64) 64 k:=by intro _ _ _ _;show _=_;kernel_rfl
theorem avX [aB] (k:Int):WA (gJ k) (z 0) (z 32) 96 k:=by intro _ _ _ _ _ _ _;show _=_;kernel_rfl
theorem avY [aB] (k:Int):WB (eX k) (z 0) (z 32) 128 k:=by intro _ _ _ _;show _=_;kernel_rfl
theorem avZ [aB] (k:Int):WA (eX k) (z 64) (z 0) 128 k:=by intro _ _ _ _ _ _ _;show _=_;kernel_rfl
theorem av0 [aB] (k:Int):WB (jK k) (z 0) (z 0) 64 k:=by intro _ _ _ _;show _=_;kernel_rfl
theorem av1 [aB] (k:Int):WA (jK k) (z 32) (z 64) 64 k:=by intro _ _ _ _ _ _ _;show _=_;kernel_rfl
theorem av2 [aB] (k:Int):WB (gK k) (z 64) (z 64) 96 k:=by intro _ _ _ _;show _=_;kernel_rfl
theorem av3 [aB] (k:Int):WA (eY k) (z 32) (z 32) 128 k:=by intro _ _ _ _ _ _ _;show _=_;kernel_rfl
end Go.M
