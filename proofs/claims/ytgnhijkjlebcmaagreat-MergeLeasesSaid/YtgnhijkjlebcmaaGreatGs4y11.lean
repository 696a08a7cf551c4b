/-
  MergeLeases in parts, run by the machine.
  The list's numbers come in as what the oracle says of each draw.
-/
import Derived.Test.YtgnhijkjlebcmaaGreatSt4
import Derived.KernelRfl
set_option linter.unusedVariables false
set_option linter.unusedSectionVars false
set_option maxRecDepth 100000
namespace Go.M
open Go Go.Proofs
theorem g4_5_5 [Lst] (k : Int) : holdsR (seg cx4 (sL (sR (sR (sR (sR (sR fun4.sc)))))) (V4x10 k) [] 0 [0, 1, 2, 3, 4, 5, 6, 7, 8, 9, 10, 11, 12, 13, 15, 16, 17, 18, 19, 20, 22, 25, 220, 222, 224, 230, 329, 331, 333, 335, 715, 1006, 1045, 1084, 1086, 1088, 1090, 1276, 1279, 1282, 1290, 1350, 1357, 1471, 1510, 1512, 1514, 1516, 1517, 1518, 1520] [] (V4x16 k)) = allP (((V4x16 k).fr = (V4x16 k).fr) :: ((V4x16 k).bl = (V4x16 k).bl) :: []) := by kernel_rfl
end Go.M
