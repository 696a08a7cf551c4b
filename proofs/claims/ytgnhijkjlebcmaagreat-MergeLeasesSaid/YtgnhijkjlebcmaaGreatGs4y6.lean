/-
  MergeLeases in parts, run by the machine.
  The list's numbers come in as what the oracle says of each draw.
-/
import Derived.Test.YtgnhijkjlebcmaaGreatSt4
import Derived.KernelRfl
set_option linter.unusedVariables false
set_option linter.unusedSectionVars false
set_option maxRecDepth 100000
namespace Go.M
open Go Go.Proofs
theorem g4_5_0 [Lst] (k : Int) : holdsR (seg cx4 (sL (sR (sR (sR (sR (sR fun4.sc)))))) (V4x5 k) [] 0 [0, 1, 2, 3, 4, 5, 7, 10, 277, 279, 281, 287, 386, 388, 390, 392, 666, 931, 938, 940, 941, 942, 943] [] (V4x11 k)) = allP (((V4x11 k).fr = (V4x11 k).fr) :: ((V4x11 k).bl = (V4x11 k).bl) :: []) := by kernel_rfl
end Go.M
