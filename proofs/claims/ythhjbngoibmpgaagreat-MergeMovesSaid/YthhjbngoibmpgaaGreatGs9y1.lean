/-
  MergeMoves in parts, run by the machine.
  The list's numbers come in as what the oracle says of each draw.
-/
import Derived.Test.YthhjbngoibmpgaaGreatSt9
import Derived.KernelRfl
set_option linter.unusedVariables false
set_option linter.unusedSectionVars false
set_option maxRecDepth 100000
namespace Go.M
open Go Go.Proofs
theorem g9_3_6 [Lst] (k k1 : Int) : holdsR (seg cx9 (sL (sR (sR (sR fun9.sc)))) (V9x3 0) [⟨192, [], oZ⟩, ⟨13, [], .int .i64 k1⟩] 0 [0, 4, 8, 10, 1717, 1871, 1878] [] (V9x10 k1)) = allP (((V9x10 k1).fr = (V9x10 k1).fr) :: ((V9x10 k1).bl = (V9x10 k1).bl) :: DrawF lst1 n0L zsL ⟨13, [], lst1⟩ ⟨0, [], oZ⟩ ⟨352, [], oZ⟩ ⟨192, [], oZ⟩ ⟨13, [], .int .i64 k1⟩ :: True :: []) := by kernel_rfl
theorem g9_3_7 [Lst] (k k1 : Int) : holdsR (seg cx9 (sL (sR (sR (sR fun9.sc)))) (V9x3 0) [⟨224, [], oZ⟩, ⟨13, [], .int .i64 k1⟩] 0 [0, 4, 8, 10, 2204, 2380, 2387] [] (V9x11 k1)) = allP (((V9x11 k1).fr = (V9x11 k1).fr) :: ((V9x11 k1).bl = (V9x11 k1).bl) :: DrawF lst1 n0L zsL ⟨13, [], lst1⟩ ⟨0, [], oZ⟩ ⟨352, [], oZ⟩ ⟨224, [], oZ⟩ ⟨13, [], .int .i64 k1⟩ :: True :: []) := by kernel_rfl
end Go.M
