/-
  MergeLeases in parts, run by the machine.
  The list's numbers come in as what the oracle says of each draw.
-/
import Derived.Test.YtgnhijkjlebcmaaGreatSt4
import Derived.KernelRfl
set_option linter.unusedVariables false
set_option linter.unusedSectionVars false
set_option maxRecDepth 100000
namespace Go.M
open Go Go.Proofs
theorem g4_5_3 [Lst] (k : Int) : holdsR (seg cx4 (sL (sR (sR (sR (sR (sR fun4.sc)))))) (V4x8 k) [] 0 [0, 1, 2, 3, 4, 5, 6, 7, 8, 9, 10, 12, 13, 14, 16, 19, 214, 216, 218, 224, 323, 325, 327, 329, 624, 627, 630, 640, 827, 866, 905, 907, 909, 911, 1218, 1225, 1227, 1228, 1229, 1230] [] (V4x14 k)) = allP (((V4x14 k).fr = (V4x14 k).fr) :: ((V4x14 k).bl = (V4x14 k).bl) :: []) := by kernel_rfl
end Go.M
