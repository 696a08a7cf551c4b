/-
  MergeMoves in parts, run by the machine.
  The list's numbers come in as what the oracle says of each draw.
-/
import Derived.Test.YthhjbngoibmpgaaGreatSt9
import Derived.KernelRfl
set_option linter.unusedVariables false
set_option linter.unusedSectionVars false
set_option maxRecDepth 100000
namespace Go.M
open Go Go.Proofs
theorem g9_3_8 [Lst] (k k1 : Int) : holdsR (seg cx9 (sL (sR (sR (sR fun9.sc)))) (V9x3 0) [⟨256, [], oZ⟩, ⟨13, [], .int .i64 k1⟩] 0 [0, 4, 8, 2204, 2504, 2548, 2555] [] (V9x12 k1)) = allP (((V9x12 k1).fr = (V9x12 k1).fr) :: ((V9x12 k1).bl = (V9x12 k1).bl) :: DrawF lst1 n0L zsL ⟨13, [], lst1⟩ ⟨0, [], oZ⟩ ⟨352, [], oZ⟩ ⟨256, [], oZ⟩ ⟨13, [], .int .i64 k1⟩ :: True :: []) := by kernel_rfl
theorem g9_3_9 [Lst] (k k1 : Int) : holdsR (seg cx9 (sL (sR (sR (sR fun9.sc)))) (V9x3 0) [⟨288, [], oZ⟩, ⟨13, [], .int .i64 k1⟩] 0 [0, 4, 8, 2204, 2711, 2777, 2784] [] (V9x13 k1)) = allP (((V9x13 k1).fr = (V9x13 k1).fr) :: ((V9x13 k1).bl = (V9x13 k1).bl) :: DrawF lst1 n0L zsL ⟨13, [], lst1⟩ ⟨0, [], oZ⟩ ⟨352, [], oZ⟩ ⟨288, [], oZ⟩ ⟨13, [], .int .i64 k1⟩ :: True :: []) := by kernel_rfl
end Go.M
