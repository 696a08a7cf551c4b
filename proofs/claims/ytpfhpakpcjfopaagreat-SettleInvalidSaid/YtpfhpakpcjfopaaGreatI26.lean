/-
  The ways of SettleInvalid, run by the machine.
  The list's numbers come in as what the oracle says of each draw.
-/
import Derived.Test.YtpfhpakpcjfopaaGreatI19
import Derived.KernelRfl
set_option linter.all false
set_option maxRecDepth 100000
set_option maxHeartbeats 8000000
namespace Go.M
open Go Go.Proofs
theorem awo [aB] (k:Int):WB (jJ k) (z 32) (z 0) 64 k:=by intro _ _ _ _;show _=_;kernel_rfl
theorem awp [aB] (k:Int):WA (gJ k) (z 0) (z 64) 96 k:=by intro _ _ _ _ _ _ _;show _=_;kernel_rfl
theorem awq [aB] (k:Int):WB (eX k) (z 0) (z 64) 128 k:=by intro _ _ _ _;show _=_;kernel_rfl
theorem awr [aB] (k:Int):WA (eX k) (z 64) (z 32) 128 k:=by intro _ _ _ _ _ _ _;show _=_;kernel_rfl
theorem aws [aB] (k:Int):WB (jK k) (z 0) (z 32) 64 k:=by intro _ _ _ _;show _=_;kernel_rfl
theorem awt [aB] (k:Int):WA (gK k) (z 0) (z 0) 96 k:=by intro _ _ _ _ _ _ _;show _=_;kernel_rfl
theorem awu [aB] (k:Int):WB (eY k) (z 0) (z 0) 128 k:=by intro _ _ _ _;show _=_;kernel_rfl
theorem awv [aB] (k:Int):WA (eY k) (z 32) (z 64) 128 k:=by intro _ _ _ _ _ _ _;show _=_;kernel_rfl
end Go.M
