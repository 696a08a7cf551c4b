/-
  SplitLeases in parts, run by the machine.
  The list's numbers come in as what the oracle says of each draw.
-/
import Derived.Test.YtgnhijkjlebcmaaGreatSt3
import Derived.KernelRfl
set_option linter.unusedVariables false
set_option linter.unusedSectionVars false
set_option maxRecDepth 100000
namespace Go.M
open Go Go.Proofs
theorem g3_5_1_3 [Lst] (k k1 : Int) : holdsR (seg cx3 (sL (sR (sR (sR (sR (sR fun3.sc)))))) (V3x6 k) [⟨96, [], oZ⟩, ⟨13, [], .int .i64 k1⟩] 0 [0, 1, 2, 3, 4, 5, 6, 7, 8, 9, 10, 11, 12, 13, 15, 42] [] (V3x17 k1)) = allP (((V3x17 k1).fr = (V3x17 k1).fr) :: ((V3x17 k1).bl = (V3x17 k1).bl) :: DrawF lst1 n0L zsL ⟨13, [], lst1⟩ ⟨13, [], .int .i64 k⟩ ⟨128, [], oZ⟩ ⟨96, [], oZ⟩ ⟨13, [], .int .i64 k1⟩ :: True :: []) := by kernel_rfl
theorem g3_5_2_0 [Lst] (k k1 : Int) : holdsR (seg cx3 (sL (sR (sR (sR (sR (sR fun3.sc)))))) (V3x7 k) [⟨0, [], oZ⟩, ⟨13, [], .int .i64 k1⟩] 0 [0, 1, 2, 3, 4, 5, 6, 7, 8, 9, 10, 11, 12, 13, 14, 15, 16, 18, 45] [] (V3x18 k1)) = allP (((V3x18 k1).fr = (V3x18 k1).fr) :: ((V3x18 k1).bl = (V3x18 k1).bl) :: DrawF lst1 n0L zsL ⟨13, [], lst1⟩ ⟨13, [], .int .i64 k⟩ ⟨128, [], oZ⟩ ⟨0, [], oZ⟩ ⟨13, [], .int .i64 k1⟩ :: True :: []) := by kernel_rfl
theorem g3_5_2_1 [Lst] (k k1 : Int) : holdsR (seg cx3 (sL (sR (sR (sR (sR (sR fun3.sc)))))) (V3x7 k) [⟨32, [], oZ⟩, ⟨13, [], .int .i64 k1⟩] 0 [0, 1, 2, 3, 4, 5, 6, 7, 8, 9, 10, 11, 12, 13, 14, 15, 16, 18, 45] [] (V3x19 k1)) = allP (((V3x19 k1).fr = (V3x19 k1).fr) :: ((V3x19 k1).bl = (V3x19 k1).bl) :: DrawF lst1 n0L zsL ⟨13, [], lst1⟩ ⟨13, [], .int .i64 k⟩ ⟨128, [], oZ⟩ ⟨32, [], oZ⟩ ⟨13, [], .int .i64 k1⟩ :: True :: []) := by kernel_rfl
theorem g3_5_2_2 [Lst] (k k1 : Int) : holdsR (seg cx3 (sL (sR (sR (sR (sR (sR fun3.sc)))))) (V3x7 k) [⟨64, [], oZ⟩, ⟨13, [], .int .i64 k1⟩] 0 [0, 1, 2, 3, 4, 5, 6, 7, 8, 9, 10, 11, 12, 13, 14, 15, 16, 18, 45] [] (V3x20 k1)) = allP (((V3x20 k1).fr = (V3x20 k1).fr) :: ((V3x20 k1).bl = (V3x20 k1).bl) :: DrawF lst1 n0L zsL ⟨13, [], lst1⟩ ⟨13, [], .int .i64 k⟩ ⟨128, [], oZ⟩ ⟨64, [], oZ⟩ ⟨13, [], .int .i64 k1⟩ :: True :: []) := by kernel_rfl
end Go.M
