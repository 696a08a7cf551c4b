/-
  MergeMoves in parts, run by the machine.
  The list's numbers come in as what the oracle says of each draw.
-/
import Derived.Test.YthhjbngoibmpgaaGreatSt9
import Derived.KernelRfl
set_option linter.unusedVariables false
set_option linter.unusedSectionVars false
set_option maxRecDepth 100000
namespace Go.M
open Go Go.Proofs
theorem hf9_10_1 [Lst] (k : Int) : holdsR (segR cx9 (sB (sB (sR (sL (sR (sR (sR (sR (sR (sR (sR (sR fun9.sc)))))))))))) 40 (V9x36 k) [] 2 [0, 5, 2430, 2432, 3457, 4305, 4801, 5221] [5221, 5, 0, 2432, 2430, 3457, 4305] (V9x37 k)) = allP (((V9x37 k).fr = (V9x37 k).fr) :: ((V9x37 k).bl = (V9x37 k).bl) :: []) := by kernel_rfl
theorem hg9_10_1 [Lst] (k : Int) : holdsR (segE cx9 fun9.res (sR (sR (sR (sR (sR (sR (sR (sR (sR fun9.sc))))))))) (V9x37 k) []) = allP [] := by kernel_rfl
end Go.M
