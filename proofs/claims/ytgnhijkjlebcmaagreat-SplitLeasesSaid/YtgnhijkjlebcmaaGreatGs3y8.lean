/-
  SplitLeases in parts, run by the machine.
  The list's numbers come in as what the oracle says of each draw.
-/
import Derived.Test.YtgnhijkjlebcmaaGreatSt3
import Derived.KernelRfl
set_option linter.unusedVariables false
set_option linter.unusedSectionVars false
set_option maxRecDepth 100000
namespace Go.M
open Go Go.Proofs
theorem g3_6_1_3 [Lst] (k : Int) : holdsR (seg cx3 (sL (sR (sR (sR (sR (sR (sR fun3.sc))))))) (V3x17 k) [] 0 [0, 1, 2, 3, 4, 5, 6, 7, 8, 10, 13, 141, 144, 147, 155, 191, 198, 296, 335, 337, 339, 341, 342, 343, 344] [] (V3x37 k)) = allP (((V3x37 k).fr = (V3x37 k).fr) :: ((V3x37 k).bl = (V3x37 k).bl) :: []) := by kernel_rfl
theorem g3_6_2_0 [Lst] (k : Int) : holdsR (seg cx3 (sL (sR (sR (sR (sR (sR (sR fun3.sc))))))) (V3x18 k) [] 0 [0, 1, 2, 3, 4, 5, 6, 7, 8, 9, 10, 11, 13, 16, 159, 161, 163, 169, 244, 251, 356, 358, 360, 362, 363, 364, 365] [] (V3x38 k)) = allP (((V3x38 k).fr = (V3x38 k).fr) :: ((V3x38 k).bl = (V3x38 k).bl) :: []) := by kernel_rfl
theorem g3_6_2_1 [Lst] (k : Int) : holdsR (seg cx3 (sL (sR (sR (sR (sR (sR (sR fun3.sc))))))) (V3x19 k) [] 0 [0, 1, 2, 3, 4, 5, 6, 7, 8, 9, 10, 11, 13, 16, 175, 178, 181, 189, 250, 257, 380, 419, 421, 423, 425, 426, 427, 428] [] (V3x39 k)) = allP (((V3x39 k).fr = (V3x39 k).fr) :: ((V3x39 k).bl = (V3x39 k).bl) :: []) := by kernel_rfl
theorem g3_6_2_2 [Lst] (k : Int) : holdsR (seg cx3 (sL (sR (sR (sR (sR (sR (sR fun3.sc))))))) (V3x20 k) [] 0 [0, 1, 2, 3, 4, 5, 6, 7, 8, 9, 10, 11, 13, 16, 188, 191, 194, 204, 248, 255, 391, 430, 469, 471, 473, 475, 476, 477, 478] [] (V3x40 k)) = allP (((V3x40 k).fr = (V3x40 k).fr) :: ((V3x40 k).bl = (V3x40 k).bl) :: []) := by kernel_rfl
end Go.M
