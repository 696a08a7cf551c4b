/-
  MergeLeases in parts, run by the machine.
  The list's numbers come in as what the oracle says of each draw.
-/
import Derived.Test.YtgnhijkjlebcmaaGreatSt4
import Derived.KernelRfl
set_option linter.unusedVariables false
set_option linter.unusedSectionVars false
set_option maxRecDepth 100000
namespace Go.M
open Go Go.Proofs
theorem g4_5_4 [Lst] (k : Int) : holdsR (seg cx4 (sL (sR (sR (sR (sR (sR fun4.sc)))))) (V4x9 k) [] 0 [0, 1, 2, 3, 4, 5, 6, 7, 8, 9, 10, 11, 12, 13, 15, 16, 17, 19, 22, 217, 219, 221, 227, 326, 328, 330, 332, 678, 919, 958, 997, 999, 1001, 1003, 1149, 1152, 1155, 1161, 1213, 1220, 1300, 1302, 1304, 1306, 1307, 1308, 1310] [] (V4x15 k)) = allP (((V4x15 k).fr = (V4x15 k).fr) :: ((V4x15 k).bl = (V4x15 k).bl) :: []) := by kernel_rfl
end Go.M
