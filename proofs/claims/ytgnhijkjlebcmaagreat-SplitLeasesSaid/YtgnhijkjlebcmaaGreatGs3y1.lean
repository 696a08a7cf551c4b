/-
  SplitLeases in parts, run by the machine.
  The list's numbers come in as what the oracle says of each draw.
-/
import Derived.Test.YtgnhijkjlebcmaaGreatSt3
import Derived.KernelRfl
set_option linter.unusedVariables false
set_option linter.unusedSectionVars false
set_option maxRecDepth 100000
namespace Go.M
open Go Go.Proofs
theorem g3_4_4 [Lst] (k k1 : Int) : holdsR (seg cx3 (sL (sR (sR (sR (sR fun3.sc))))) (V3x4 0) [⟨128, [], oZ⟩, ⟨13, [], .int .i64 k1⟩] 0 [0, 1, 2, 4, 5, 8, 117, 166, 169, 327, 399, 402, 594, 688, 691, 917, 1033, 1036, 1293, 1296, 1425, 1432, 1434, 1435, 1436] [] (V3x9 k1)) = allP (((V3x9 k1).fr = (V3x9 k1).fr) :: ((V3x9 k1).bl = (V3x9 k1).bl) :: DrawF lst1 n0L zsL ⟨13, [], lst1⟩ ⟨0, [], oZ⟩ ⟨160, [], oZ⟩ ⟨128, [], oZ⟩ ⟨13, [], .int .i64 k1⟩ :: True :: []) := by kernel_rfl
theorem g3_5_0_0 [Lst] (k k1 : Int) : holdsR (seg cx3 (sL (sR (sR (sR (sR (sR fun3.sc)))))) (V3x5 k) [⟨0, [], oZ⟩, ⟨13, [], .int .i64 k1⟩] 0 [0, 1, 2, 3, 4, 5, 6, 7, 8, 9, 10, 12, 39] [] (V3x10 k1)) = allP (((V3x10 k1).fr = (V3x10 k1).fr) :: ((V3x10 k1).bl = (V3x10 k1).bl) :: DrawF lst1 n0L zsL ⟨13, [], lst1⟩ ⟨13, [], .int .i64 k⟩ ⟨128, [], oZ⟩ ⟨0, [], oZ⟩ ⟨13, [], .int .i64 k1⟩ :: True :: []) := by kernel_rfl
theorem g3_5_0_1 [Lst] (k k1 : Int) : holdsR (seg cx3 (sL (sR (sR (sR (sR (sR fun3.sc)))))) (V3x5 k) [⟨32, [], oZ⟩, ⟨13, [], .int .i64 k1⟩] 0 [0, 1, 2, 3, 4, 5, 6, 7, 8, 9, 10, 12, 39] [] (V3x11 k1)) = allP (((V3x11 k1).fr = (V3x11 k1).fr) :: ((V3x11 k1).bl = (V3x11 k1).bl) :: DrawF lst1 n0L zsL ⟨13, [], lst1⟩ ⟨13, [], .int .i64 k⟩ ⟨128, [], oZ⟩ ⟨32, [], oZ⟩ ⟨13, [], .int .i64 k1⟩ :: True :: []) := by kernel_rfl
theorem g3_5_0_2 [Lst] (k k1 : Int) : holdsR (seg cx3 (sL (sR (sR (sR (sR (sR fun3.sc)))))) (V3x5 k) [⟨64, [], oZ⟩, ⟨13, [], .int .i64 k1⟩] 0 [0, 1, 2, 3, 4, 5, 6, 7, 8, 9, 10, 12, 39] [] (V3x12 k1)) = allP (((V3x12 k1).fr = (V3x12 k1).fr) :: ((V3x12 k1).bl = (V3x12 k1).bl) :: DrawF lst1 n0L zsL ⟨13, [], lst1⟩ ⟨13, [], .int .i64 k⟩ ⟨128, [], oZ⟩ ⟨64, [], oZ⟩ ⟨13, [], .int .i64 k1⟩ :: True :: []) := by kernel_rfl
end Go.M
