/-
  SendBatch run by the machine, with 1 bodies.
  The list's numbers come in as what the oracle says of each draw.
-/
import Derived.Test.YtfffmopgodknpaaGreatAw28
import Derived.Test.YtfffmopgodknpaaGreatRs6
import Derived.KernelRfl
set_option linter.unusedVariables false
set_option maxRecDepth 100000
namespace Go.M
open Go Go.Proofs
def cod6_1 : List Nat := [0, 0, 0, 0, 0, 0, 0, 0, 0, 0, 0, 0, 10]
theorem r6_1 [Lst] (s0 : ByteArray) (j0 j1 : Int) : holdsR ((exF cl28 fun6).f [⟨13, [], lst0⟩] (h0 (⟨1, [], oZ⟩ :: ⟨0, [], oZ⟩ :: ⟨13, [], .int .i64 j0⟩ :: strX s0 :: ⟨13, [], .int .i64 j1⟩ :: anS [s0] cod6_1)) endK) = allP (fsS [s0] cod6_1 (BodyF lst1 n0L zsL ⟨13, [], lst1⟩ ⟨13, [], .int .i64 j0⟩ (strX s0) ⟨13, [], .int .i64 j1⟩ :: True :: DrawF lst1 n0L zsL ⟨13, [], lst1⟩ ⟨0, [], oZ⟩ ⟨192, [], oZ⟩ ⟨0, [], oZ⟩ ⟨13, [], .int .i64 j0⟩ :: True :: ((⟨13, [], lst0⟩ : X) = ⟨13, [], lst0⟩) :: [])) := by kernel_rfl
end Go.M
