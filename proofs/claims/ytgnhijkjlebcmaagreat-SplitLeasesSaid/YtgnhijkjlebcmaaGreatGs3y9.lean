/-
  SplitLeases in parts, run by the machine.
  The list's numbers come in as what the oracle says of each draw.
-/
import Derived.Test.YtgnhijkjlebcmaaGreatSt3
import Derived.KernelRfl
set_option linter.unusedVariables false
set_option linter.unusedSectionVars false
set_option maxRecDepth 100000
namespace Go.M
open Go Go.Proofs
theorem g3_6_2_3 [Lst] (k : Int) : holdsR (seg cx3 (sL (sR (sR (sR (sR (sR (sR fun3.sc))))))) (V3x21 k) [] 0 [0, 1, 2, 3, 4, 5, 6, 7, 8, 9, 10, 11, 13, 16, 188, 191, 194, 204, 248, 255, 391, 430, 469, 471, 473, 475, 476, 477, 478] [] (V3x41 k)) = allP (((V3x41 k).fr = (V3x41 k).fr) :: ((V3x41 k).bl = (V3x41 k).bl) :: []) := by kernel_rfl
theorem g3_6_3_0 [Lst] (k : Int) : holdsR (seg cx3 (sL (sR (sR (sR (sR (sR (sR fun3.sc))))))) (V3x22 k) [] 0 [0, 1, 2, 3, 4, 5, 6, 7, 8, 9, 10, 11, 12, 13, 14, 16, 19, 188, 190, 192, 198, 295, 302, 427, 429, 431, 433, 434, 435, 436] [] (V3x42 k)) = allP (((V3x42 k).fr = (V3x42 k).fr) :: ((V3x42 k).bl = (V3x42 k).bl) :: []) := by kernel_rfl
theorem g3_6_3_1 [Lst] (k : Int) : holdsR (seg cx3 (sL (sR (sR (sR (sR (sR (sR fun3.sc))))))) (V3x23 k) [] 0 [0, 1, 2, 3, 4, 5, 6, 7, 8, 9, 10, 11, 12, 13, 14, 16, 19, 208, 211, 214, 222, 305, 312, 459, 498, 500, 502, 504, 505, 506, 507] [] (V3x43 k)) = allP (((V3x43 k).fr = (V3x43 k).fr) :: ((V3x43 k).bl = (V3x43 k).bl) :: []) := by kernel_rfl
theorem g3_6_3_2 [Lst] (k : Int) : holdsR (seg cx3 (sL (sR (sR (sR (sR (sR (sR fun3.sc))))))) (V3x24 k) [] 0 [0, 1, 2, 3, 4, 5, 6, 7, 8, 9, 10, 11, 12, 13, 14, 16, 19, 226, 229, 232, 242, 311, 318, 483, 522, 561, 563, 565, 567, 568, 569, 570] [] (V3x44 k)) = allP (((V3x44 k).fr = (V3x44 k).fr) :: ((V3x44 k).bl = (V3x44 k).bl) :: []) := by kernel_rfl
end Go.M
