/-
  SettleLimit run by the machine, at a limit whose rest by 3 is 2.
  The run leans on one fact: what the rest is.
-/
import Derived.Test.YthciknbicfnhfaaGreatAw20
import Derived.KernelRfl
set_option linter.unusedVariables false
namespace Go.M
open Go Go.Proofs
theorem run4_2 (a : Int) : holdsR ((exF cl20 fun4).f [⟨13, [], .int .u8 a⟩] (h0 [⟨1028, [], oZ⟩]) endK) = (OpFact .rem ⟨13, [], .int .u8 a⟩ ⟨1540, [], oZ⟩ ⟨1028, [], oZ⟩ ∧ True) := by kernel_rfl
end Go.M
