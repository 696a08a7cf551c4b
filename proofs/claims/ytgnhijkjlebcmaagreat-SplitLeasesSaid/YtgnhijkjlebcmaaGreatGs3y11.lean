/-
  SplitLeases in parts, run by the machine.
  The list's numbers come in as what the oracle says of each draw.
-/
import Derived.Test.YtgnhijkjlebcmaaGreatSt3
import Derived.KernelRfl
set_option linter.unusedVariables false
set_option linter.unusedSectionVars false
set_option maxRecDepth 100000
namespace Go.M
open Go Go.Proofs
theorem g3_6_4_3 [Lst] (k : Int) : holdsR (seg cx3 (sL (sR (sR (sR (sR (sR (sR fun3.sc))))))) (V3x29 k) [] 0 [0, 1, 2, 3, 4, 5, 6, 7, 8, 9, 10, 11, 12, 13, 14, 15, 16, 17, 19, 22, 281, 284, 287, 299, 376, 383, 594, 633, 672, 711, 713, 715, 717, 718, 719, 720] [] (V3x49 k)) = allP (((V3x49 k).fr = (V3x49 k).fr) :: ((V3x49 k).bl = (V3x49 k).bl) :: []) := by kernel_rfl
theorem e3_0_0_0 [Lst] (k k1 : Int) : holdsR (segE cx3 fun3.res (sR (sR (sR (sR (sR (sR (sR fun3.sc))))))) (V3x30 k) [⟨0, [], oZ⟩, ⟨13, [], .int .i64 k1⟩]) = allP (DrawF lst1 n0L zsL ⟨13, [], lst1⟩ ⟨13, [], .int .i64 k⟩ ⟨64, [], oZ⟩ ⟨0, [], oZ⟩ ⟨13, [], .int .i64 k1⟩ :: True :: []) := by kernel_rfl
theorem e3_0_0_1 [Lst] (k k1 : Int) : holdsR (segE cx3 fun3.res (sR (sR (sR (sR (sR (sR (sR fun3.sc))))))) (V3x30 k) [⟨32, [], oZ⟩, ⟨13, [], .int .i64 k1⟩]) = allP (DrawF lst1 n0L zsL ⟨13, [], lst1⟩ ⟨13, [], .int .i64 k⟩ ⟨64, [], oZ⟩ ⟨32, [], oZ⟩ ⟨13, [], .int .i64 k1⟩ :: True :: []) := by kernel_rfl
theorem e3_0_1_0 [Lst] (k k1 : Int) : holdsR (segE cx3 fun3.res (sR (sR (sR (sR (sR (sR (sR fun3.sc))))))) (V3x31 k) [⟨0, [], oZ⟩, ⟨13, [], .int .i64 k1⟩]) = allP (DrawF lst1 n0L zsL ⟨13, [], lst1⟩ ⟨13, [], .int .i64 k⟩ ⟨64, [], oZ⟩ ⟨0, [], oZ⟩ ⟨13, [], .int .i64 k1⟩ :: True :: []) := by kernel_rfl
end Go.M
