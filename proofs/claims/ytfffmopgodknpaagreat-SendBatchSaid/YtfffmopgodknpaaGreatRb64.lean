/-
  SendBatch run by the machine, with 4 bodies.
  The list's numbers come in as what the oracle says of each draw.
-/
import Derived.Test.YtfffmopgodknpaaGreatAw28
import Derived.Test.YtfffmopgodknpaaGreatRs6
import Derived.KernelRfl
set_option linter.unusedVariables false
set_option maxRecDepth 100000
namespace Go.M
open Go Go.Proofs
def cod6_4 : List Nat := [0, 1, 2, 3, 0, 0, 0, 0, 0, 0, 0, 0, 0, 0, 0, 0, 0, 0, 1, 0, 0, 1, 0, 0, 1, 0, 1, 0, 1, 0, 1, 0, 1, 0, 1, 0, 1, 0, 1, 0, 1, 0, 1, 0, 1, 0, 1, 2, 0, 1, 0, 1, 2, 0, 1, 0, 1, 2, 0, 1, 2, 0, 1, 2, 0, 1, 2, 0, 1, 2, 0, 1, 2, 0, 1, 2, 0, 1, 2, 0, 1, 2, 0, 1, 2, 0, 1, 2, 0, 1, 2, 3, 0, 1, 2, 0, 1, 2, 3, 0, 1, 2, 0, 1, 2, 3, 0, 1, 2, 3, 0, 1, 2, 3, 0, 1, 2, 3, 0, 1, 2, 3, 0, 1, 2, 3, 0, 1, 2, 3, 0, 1, 2, 3, 0, 1, 2, 3, 10, 0, 1, 2, 3, 11, 0, 1, 2, 3, 12, 0, 1, 2, 3, 13]
theorem r6_4 [Lst] (s0 s1 s2 s3 : ByteArray) (j0 j1 j2 j3 j4 : Int) : holdsR ((exF cl28 fun6).f [⟨13, [], lst0⟩] (h0 (⟨1, [], oZ⟩ :: ⟨96, [], oZ⟩ :: ⟨13, [], .int .i64 j0⟩ :: strX s0 :: ⟨13, [], .int .i64 j1⟩ :: strX s1 :: ⟨13, [], .int .i64 j2⟩ :: strX s2 :: ⟨13, [], .int .i64 j3⟩ :: strX s3 :: ⟨13, [], .int .i64 j4⟩ :: anS [s0, s1, s2, s3] cod6_4)) endK) = allP (fsS [s0, s1, s2, s3] cod6_4 (BodyF lst1 n0L zsL ⟨13, [], lst1⟩ ⟨13, [], .int .i64 j3⟩ (strX s3) ⟨13, [], .int .i64 j4⟩ :: True :: BodyF lst1 n0L zsL ⟨13, [], lst1⟩ ⟨13, [], .int .i64 j2⟩ (strX s2) ⟨13, [], .int .i64 j3⟩ :: True :: BodyF lst1 n0L zsL ⟨13, [], lst1⟩ ⟨13, [], .int .i64 j1⟩ (strX s1) ⟨13, [], .int .i64 j2⟩ :: True :: BodyF lst1 n0L zsL ⟨13, [], lst1⟩ ⟨13, [], .int .i64 j0⟩ (strX s0) ⟨13, [], .int .i64 j1⟩ :: True :: DrawF lst1 n0L zsL ⟨13, [], lst1⟩ ⟨0, [], oZ⟩ ⟨192, [], oZ⟩ ⟨96, [], oZ⟩ ⟨13, [], .int .i64 j0⟩ :: True :: ((⟨13, [], lst0⟩ : X) = ⟨13, [], lst0⟩) :: [])) := by kernel_rfl
end Go.M
