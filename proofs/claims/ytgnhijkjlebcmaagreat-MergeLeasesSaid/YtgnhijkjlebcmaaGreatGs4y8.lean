/-
  MergeLeases in parts, run by the machine.
  The list's numbers come in as what the oracle says of each draw.
-/
import Derived.Test.YtgnhijkjlebcmaaGreatSt4
import Derived.KernelRfl
set_option linter.unusedVariables false
set_option linter.unusedSectionVars false
set_option maxRecDepth 100000
namespace Go.M
open Go Go.Proofs
theorem g4_5_2 [Lst] (k : Int) : holdsR (seg cx4 (sL (sR (sR (sR (sR (sR fun4.sc)))))) (V4x7 k) [] 0 [0, 1, 2, 3, 4, 5, 6, 7, 8, 9, 10, 11, 13, 16, 365, 368, 371, 381, 568, 607, 646, 648, 650, 652, 950, 1239, 1246, 1248, 1249, 1250, 1251] [] (V4x13 k)) = allP (((V4x13 k).fr = (V4x13 k).fr) :: ((V4x13 k).bl = (V4x13 k).bl) :: []) := by kernel_rfl
end Go.M
