/-
  MergeMoves in parts, run by the machine.
  The list's numbers come in as what the oracle says of each draw.
-/
import Derived.Test.YthhjbngoibmpgaaGreatSt9
import Derived.KernelRfl
set_option linter.unusedVariables false
set_option linter.unusedSectionVars false
set_option maxRecDepth 100000
namespace Go.M
open Go Go.Proofs
theorem he9_10_0 [Lst] (k : Int) : holdsR (segR cx9 (sB (sB (sR (sL (sR (sR (sR (sR (sR (sR (sR (sR fun9.sc)))))))))))) 9 (V9x29 k) [] 0 [0, 1, 2, 3, 4, 7, 10, 448, 2204, 2206, 3077, 3939] [3939, 0] (V9x30 k)) = allP (((V9x30 k).fr = (V9x30 k).fr) :: ((V9x30 k).bl = (V9x30 k).bl) :: []) := by kernel_rfl
end Go.M
