/-
  SettleOnce run by the machine, at a kind whose rest by 3 is 2, and the visibility 0.
  The run leans on one fact: what the rest is.
-/
import Derived.Test.YthciknbicfnhfaaGreatAw20
import Derived.Test.YthciknbicfnhfaaGreatMemE
import Derived.KernelRfl
set_option linter.unusedVariables false
namespace Go.M
open Go Go.Proofs
theorem run3_3 (a : Int) : holdsR ((exF cl20 fun3).f [⟨13, [], .int .u8 a⟩, ⟨4, [], oZ⟩] (h0 [⟨1028, [], oZ⟩]) endK) = (OpFact .rem ⟨13, [], .int .u8 a⟩ ⟨1540, [], oZ⟩ ⟨1028, [], oZ⟩ ∧ True) := by kernel_rfl
end Go.M
