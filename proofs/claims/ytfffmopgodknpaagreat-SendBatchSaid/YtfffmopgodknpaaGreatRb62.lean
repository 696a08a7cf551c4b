/-
  SendBatch run by the machine, with 2 bodies.
  The list's numbers come in as what the oracle says of each draw.
-/
import Derived.Test.YtfffmopgodknpaaGreatAw28
import Derived.Test.YtfffmopgodknpaaGreatRs6
import Derived.KernelRfl
set_option linter.unusedVariables false
set_option maxRecDepth 100000
namespace Go.M
open Go Go.Proofs
def cod6_2 : List Nat := [0, 1, 0, 0, 0, 0, 0, 0, 0, 0, 0, 0, 0, 0, 0, 0, 1, 0, 0, 1, 0, 0, 1, 0, 1, 0, 1, 0, 1, 0, 1, 0, 1, 0, 1, 0, 1, 0, 1, 10, 0, 1, 11]
theorem r6_2 [Lst] (s0 s1 : ByteArray) (j0 j1 j2 : Int) : holdsR ((exF cl28 fun6).f [⟨13, [], lst0⟩] (h0 (⟨1, [], oZ⟩ :: ⟨32, [], oZ⟩ :: ⟨13, [], .int .i64 j0⟩ :: strX s0 :: ⟨13, [], .int .i64 j1⟩ :: strX s1 :: ⟨13, [], .int .i64 j2⟩ :: anS [s0, s1] cod6_2)) endK) = allP (fsS [s0, s1] cod6_2 (BodyF lst1 n0L zsL ⟨13, [], lst1⟩ ⟨13, [], .int .i64 j1⟩ (strX s1) ⟨13, [], .int .i64 j2⟩ :: True :: BodyF lst1 n0L zsL ⟨13, [], lst1⟩ ⟨13, [], .int .i64 j0⟩ (strX s0) ⟨13, [], .int .i64 j1⟩ :: True :: DrawF lst1 n0L zsL ⟨13, [], lst1⟩ ⟨0, [], oZ⟩ ⟨192, [], oZ⟩ ⟨32, [], oZ⟩ ⟨13, [], .int .i64 j0⟩ :: True :: ((⟨13, [], lst0⟩ : X) = ⟨13, [], lst0⟩) :: [])) := by kernel_rfl
end Go.M
