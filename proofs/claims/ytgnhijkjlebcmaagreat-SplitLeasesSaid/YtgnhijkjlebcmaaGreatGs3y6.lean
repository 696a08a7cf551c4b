/-
  SplitLeases in parts, run by the machine.
  The list's numbers come in as what the oracle says of each draw.
-/
import Derived.Test.YtgnhijkjlebcmaaGreatSt3
import Derived.KernelRfl
set_option linter.unusedVariables false
set_option linter.unusedSectionVars false
set_option maxRecDepth 100000
namespace Go.M
open Go Go.Proofs
theorem g3_5_4_3 [Lst] (k k1 : Int) : holdsR (seg cx3 (sL (sR (sR (sR (sR (sR fun3.sc)))))) (V3x9 k) [⟨96, [], oZ⟩, ⟨13, [], .int .i64 k1⟩] 0 [0, 1, 2, 3, 4, 5, 6, 7, 8, 9, 10, 11, 12, 13, 14, 15, 16, 17, 18, 19, 20, 21, 22, 24, 51] [] (V3x29 k1)) = allP (((V3x29 k1).fr = (V3x29 k1).fr) :: ((V3x29 k1).bl = (V3x29 k1).bl) :: DrawF lst1 n0L zsL ⟨13, [], lst1⟩ ⟨13, [], .int .i64 k⟩ ⟨128, [], oZ⟩ ⟨96, [], oZ⟩ ⟨13, [], .int .i64 k1⟩ :: True :: []) := by kernel_rfl
theorem g3_6_0_0 [Lst] (k : Int) : holdsR (seg cx3 (sL (sR (sR (sR (sR (sR (sR fun3.sc))))))) (V3x10 k) [] 0 [0, 1, 2, 3, 4, 5, 7, 10, 100, 102, 104, 110, 138, 145, 209, 211, 213, 215, 216, 217, 218] [] (V3x30 k)) = allP (((V3x30 k).fr = (V3x30 k).fr) :: ((V3x30 k).bl = (V3x30 k).bl) :: []) := by kernel_rfl
theorem g3_6_0_1 [Lst] (k : Int) : holdsR (seg cx3 (sL (sR (sR (sR (sR (sR (sR fun3.sc))))))) (V3x11 k) [] 0 [0, 1, 2, 3, 4, 5, 7, 10, 100, 102, 104, 110, 138, 145, 209, 211, 213, 215, 216, 217, 218] [] (V3x31 k)) = allP (((V3x31 k).fr = (V3x31 k).fr) :: ((V3x31 k).bl = (V3x31 k).bl) :: []) := by kernel_rfl
theorem g3_6_0_2 [Lst] (k : Int) : holdsR (seg cx3 (sL (sR (sR (sR (sR (sR (sR fun3.sc))))))) (V3x12 k) [] 0 [0, 1, 2, 3, 4, 5, 7, 10, 100, 102, 104, 110, 138, 145, 209, 211, 213, 215, 216, 217, 218] [] (V3x32 k)) = allP (((V3x32 k).fr = (V3x32 k).fr) :: ((V3x32 k).bl = (V3x32 k).bl) :: []) := by kernel_rfl
end Go.M
