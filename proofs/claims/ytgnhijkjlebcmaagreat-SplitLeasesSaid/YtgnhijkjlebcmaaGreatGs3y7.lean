/-
  SplitLeases in parts, run by the machine.
  The list's numbers come in as what the oracle says of each draw.
-/
import Derived.Test.YtgnhijkjlebcmaaGreatSt3
import Derived.KernelRfl
set_option linter.unusedVariables false
set_option linter.unusedSectionVars false
set_option maxRecDepth 100000
namespace Go.M
open Go Go.Proofs
theorem g3_6_0_3 [Lst] (k : Int) : holdsR (seg cx3 (sL (sR (sR (sR (sR (sR (sR fun3.sc))))))) (V3x13 k) [] 0 [0, 1, 2, 3, 4, 5, 7, 10, 100, 102, 104, 110, 138, 145, 209, 211, 213, 215, 216, 217, 218] [] (V3x33 k)) = allP (((V3x33 k).fr = (V3x33 k).fr) :: ((V3x33 k).bl = (V3x33 k).bl) :: []) := by kernel_rfl
theorem g3_6_1_0 [Lst] (k : Int) : holdsR (seg cx3 (sL (sR (sR (sR (sR (sR (sR fun3.sc))))))) (V3x14 k) [] 0 [0, 1, 2, 3, 4, 5, 6, 7, 8, 10, 13, 130, 132, 134, 140, 193, 200, 285, 287, 289, 291, 292, 293, 294] [] (V3x34 k)) = allP (((V3x34 k).fr = (V3x34 k).fr) :: ((V3x34 k).bl = (V3x34 k).bl) :: []) := by kernel_rfl
theorem g3_6_1_1 [Lst] (k : Int) : holdsR (seg cx3 (sL (sR (sR (sR (sR (sR (sR fun3.sc))))))) (V3x15 k) [] 0 [0, 1, 2, 3, 4, 5, 6, 7, 8, 10, 13, 141, 144, 147, 155, 191, 198, 296, 335, 337, 339, 341, 342, 343, 344] [] (V3x35 k)) = allP (((V3x35 k).fr = (V3x35 k).fr) :: ((V3x35 k).bl = (V3x35 k).bl) :: []) := by kernel_rfl
theorem g3_6_1_2 [Lst] (k : Int) : holdsR (seg cx3 (sL (sR (sR (sR (sR (sR (sR fun3.sc))))))) (V3x16 k) [] 0 [0, 1, 2, 3, 4, 5, 6, 7, 8, 10, 13, 141, 144, 147, 155, 191, 198, 296, 335, 337, 339, 341, 342, 343, 344] [] (V3x36 k)) = allP (((V3x36 k).fr = (V3x36 k).fr) :: ((V3x36 k).bl = (V3x36 k).bl) :: []) := by kernel_rfl
end Go.M
