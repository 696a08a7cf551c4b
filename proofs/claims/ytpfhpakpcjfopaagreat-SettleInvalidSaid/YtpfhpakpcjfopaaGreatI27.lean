/-
  The ways of SettleInvalid, run by the machine.
  The list's numbers come in as what the oracle says of each draw.
-/
import Derived.Test.YtpfhpakpcjfopaaGreatI19
import Derived.KernelRfl
set_option linter.all false
set_option maxRecDepth 100000
set_option maxHeartbeats 8000000
namespace Go.M
open Go Go.Proofs
theorem aww [aB] (k:Int):WA (qg k) (z 0) (z 64) 32 k:=by intro _ _ _ _ _ _ _;show _=_;kernel_rfl
theorem awx [aB] (k:Int):WB (gJ k) (z 0) (z 64) 96 k:=by intro _ _ _ _;show _=_;kernel_rfl
theorem awy [aB] (k:Int):WA (gJ k) (z 64) (z 32) 96 k:=by intro _ _ _ _ _ _ _;show _=_;kernel_rfl
theorem awz [aB] (k:Int):WB (eX k) (z 64) (z 32) 128 k:=by intro _ _ _ _;show _=_;kernel_rfl
theorem awC [aB] (k:Int):WA (qh k) (z 0) (z 0) 32 k:=by intro _ _ _ _ _ _ _;show _=_;kernel_rfl
theorem awD [aB] (k:Int):WB (gK k) (z 0) (z 0) 96 k:=by intro _ _ _ _;show _=_;kernel_rfl
theorem awE [aB] (k:Int):WA (gK k) (z 32) (z 64) 96 k:=by intro _ _ _ _ _ _ _;show _=_;kernel_rfl
theorem awF [aB] (k:Int):WB (eY k) (z 32) (z 64) 128 k:=by intro _ _ _ _;show _=_;kernel_rfl
theorem awG [aB] (k:Int):WA (eY k) (z 96) (z 32) 128 k:=by intro _ _ _ _ _ _ _;show _=_;kernel_rfl
end Go.M
