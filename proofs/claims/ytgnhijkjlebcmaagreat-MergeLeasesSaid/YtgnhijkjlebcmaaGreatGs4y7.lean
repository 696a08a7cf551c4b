/-
  MergeLeases in parts, run by the machine.
  The list's numbers come in as what the oracle says of each draw.
-/
import Derived.Test.YtgnhijkjlebcmaaGreatSt4
import Derived.KernelRfl
set_option linter.unusedVariables false
set_option linter.unusedSectionVars false
set_option maxRecDepth 100000
namespace Go.M
open Go Go.Proofs
theorem g4_5_1 [Lst] (k : Int) : holdsR (seg cx4 (sL (sR (sR (sR (sR (sR fun4.sc)))))) (V4x6 k) [] 0 [0, 1, 2, 3, 4, 5, 6, 7, 8, 10, 13, 318, 321, 324, 332, 473, 512, 514, 516, 518, 804, 1081, 1088, 1090, 1091, 1092, 1093] [] (V4x12 k)) = allP (((V4x12 k).fr = (V4x12 k).fr) :: ((V4x12 k).bl = (V4x12 k).bl) :: []) := by kernel_rfl
end Go.M
