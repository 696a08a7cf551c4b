/-
  SettleOnce run by the machine, at a kind whose rest by 3 is 0, and any visibility.
  The run leans on facts about the two bytes.
-/
import Derived.Test.YthciknbicfnhfaaGreatAw20
import Derived.Test.YthciknbicfnhfaaGreatMemE
import Derived.KernelRfl
set_option linter.unusedVariables false
set_option maxRecDepth 100000
namespace Go.M
open Go Go.Proofs
theorem run3_0 (a b : Int) : holdsR ((exF cl20 fun3).f [⟨13, [], .int .u8 a⟩, ⟨13, [], .int .u8 b⟩] (h0 [⟨4, [], oZ⟩, ⟨13, [], .int .i64 b⟩]) endK) = (ConvFact .i64 ⟨13, [], .int .u8 b⟩ ⟨13, [], .int .i64 b⟩ ∧ OpFact .rem ⟨13, [], .int .u8 a⟩ ⟨1540, [], oZ⟩ ⟨4, [], oZ⟩ ∧ True) := by kernel_rfl
theorem so3_0 {a b : Int} (hb0 : 0 ≤ b) (hb : b < 256) (hr : OpFact .rem ⟨13, [], .int .u8 a⟩ ⟨1540, [], oZ⟩ ⟨4, [], oZ⟩) : ConvFact .i64 ⟨13, [], .int .u8 b⟩ ⟨13, [], .int .i64 b⟩ ∧ OpFact .rem ⟨13, [], .int .u8 a⟩ ⟨1540, [], oZ⟩ ⟨4, [], oZ⟩ ∧ True :=
  ⟨f_conv (by omega) (by omega), hr, trivial⟩
end Go.M
