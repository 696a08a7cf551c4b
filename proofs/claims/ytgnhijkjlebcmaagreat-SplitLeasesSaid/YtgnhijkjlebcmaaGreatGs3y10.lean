/-
  SplitLeases in parts, run by the machine.
  The list's numbers come in as what the oracle says of each draw.
-/
import Derived.Test.YtgnhijkjlebcmaaGreatSt3
import Derived.KernelRfl
set_option linter.unusedVariables false
set_option linter.unusedSectionVars false
set_option maxRecDepth 100000
namespace Go.M
open Go Go.Proofs
theorem g3_6_3_3 [Lst] (k : Int) : holdsR (seg cx3 (sL (sR (sR (sR (sR (sR (sR fun3.sc))))))) (V3x25 k) [] 0 [0, 1, 2, 3, 4, 5, 6, 7, 8, 9, 10, 11, 12, 13, 14, 16, 19, 239, 242, 245, 257, 309, 316, 494, 533, 572, 611, 613, 615, 617, 618, 619, 620] [] (V3x45 k)) = allP (((V3x45 k).fr = (V3x45 k).fr) :: ((V3x45 k).bl = (V3x45 k).bl) :: []) := by kernel_rfl
theorem g3_6_4_0 [Lst] (k : Int) : holdsR (seg cx3 (sL (sR (sR (sR (sR (sR (sR fun3.sc))))))) (V3x26 k) [] 0 [0, 1, 2, 3, 4, 5, 6, 7, 8, 9, 10, 11, 12, 13, 14, 15, 16, 17, 19, 22, 217, 219, 221, 227, 346, 353, 498, 500, 502, 504, 505, 506, 507] [] (V3x46 k)) = allP (((V3x46 k).fr = (V3x46 k).fr) :: ((V3x46 k).bl = (V3x46 k).bl) :: []) := by kernel_rfl
theorem g3_6_4_1 [Lst] (k : Int) : holdsR (seg cx3 (sL (sR (sR (sR (sR (sR (sR fun3.sc))))))) (V3x27 k) [] 0 [0, 1, 2, 3, 4, 5, 6, 7, 8, 9, 10, 11, 12, 13, 14, 15, 16, 17, 19, 22, 241, 244, 247, 255, 360, 367, 538, 577, 579, 581, 583, 584, 585, 586] [] (V3x47 k)) = allP (((V3x47 k).fr = (V3x47 k).fr) :: ((V3x47 k).bl = (V3x47 k).bl) :: []) := by kernel_rfl
theorem g3_6_4_2 [Lst] (k : Int) : holdsR (seg cx3 (sL (sR (sR (sR (sR (sR (sR fun3.sc))))))) (V3x28 k) [] 0 [0, 1, 2, 3, 4, 5, 6, 7, 8, 9, 10, 11, 12, 13, 14, 15, 16, 17, 19, 22, 263, 266, 269, 279, 370, 377, 570, 609, 648, 650, 652, 654, 655, 656, 657] [] (V3x48 k)) = allP (((V3x48 k).fr = (V3x48 k).fr) :: ((V3x48 k).bl = (V3x48 k).bl) :: []) := by kernel_rfl
end Go.M
