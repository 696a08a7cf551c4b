/-
  SplitLeases in parts, run by the machine.
  The list's numbers come in as what the oracle says of each draw.
-/
import Derived.Test.YtgnhijkjlebcmaaGreatSt3
import Derived.KernelRfl
set_option linter.unusedVariables false
set_option linter.unusedSectionVars false
set_option maxRecDepth 100000
namespace Go.M
open Go Go.Proofs
theorem e3_3_1_1 [Lst] (k k1 : Int) : holdsR (segE cx3 fun3.res (sR (sR (sR (sR (sR (sR (sR fun3.sc))))))) (V3x43 k) [⟨32, [], oZ⟩, ⟨13, [], .int .i64 k1⟩]) = allP (DrawF lst1 n0L zsL ⟨13, [], lst1⟩ ⟨13, [], .int .i64 k⟩ ⟨64, [], oZ⟩ ⟨32, [], oZ⟩ ⟨13, [], .int .i64 k1⟩ :: True :: []) := by kernel_rfl
theorem e3_3_2_0 [Lst] (k k1 : Int) : holdsR (segE cx3 fun3.res (sR (sR (sR (sR (sR (sR (sR fun3.sc))))))) (V3x44 k) [⟨0, [], oZ⟩, ⟨13, [], .int .i64 k1⟩]) = allP (DrawF lst1 n0L zsL ⟨13, [], lst1⟩ ⟨13, [], .int .i64 k⟩ ⟨64, [], oZ⟩ ⟨0, [], oZ⟩ ⟨13, [], .int .i64 k1⟩ :: True :: []) := by kernel_rfl
theorem e3_3_2_1 [Lst] (k k1 : Int) : holdsR (segE cx3 fun3.res (sR (sR (sR (sR (sR (sR (sR fun3.sc))))))) (V3x44 k) [⟨32, [], oZ⟩, ⟨13, [], .int .i64 k1⟩]) = allP (DrawF lst1 n0L zsL ⟨13, [], lst1⟩ ⟨13, [], .int .i64 k⟩ ⟨64, [], oZ⟩ ⟨32, [], oZ⟩ ⟨13, [], .int .i64 k1⟩ :: True :: []) := by kernel_rfl
theorem e3_3_3_0 [Lst] (k k1 : Int) : holdsR (segE cx3 fun3.res (sR (sR (sR (sR (sR (sR (sR fun3.sc))))))) (V3x45 k) [⟨0, [], oZ⟩, ⟨13, [], .int .i64 k1⟩]) = allP (DrawF lst1 n0L zsL ⟨13, [], lst1⟩ ⟨13, [], .int .i64 k⟩ ⟨64, [], oZ⟩ ⟨0, [], oZ⟩ ⟨13, [], .int .i64 k1⟩ :: True :: []) := by kernel_rfl
end Go.M
