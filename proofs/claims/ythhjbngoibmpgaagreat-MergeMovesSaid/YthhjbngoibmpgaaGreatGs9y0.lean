/-
  MergeMoves in parts, run by the machine.
  The list's numbers come in as what the oracle says of each draw.
-/
import Derived.Test.YthhjbngoibmpgaaGreatSt9
import Derived.KernelRfl
set_option linter.unusedVariables false
set_option linter.unusedSectionVars false
set_option maxRecDepth 100000
namespace Go.M
open Go Go.Proofs
theorem g9_3_0 [Lst] (k k1 : Int) : holdsR (seg cx9 (sL (sR (sR (sR fun9.sc)))) (V9x3 0) [⟨0, [], oZ⟩, ⟨13, [], .int .i64 k1⟩] 0 [0, 4, 8, 10, 16, 18, 20] [] (V9x4 k1)) = allP (((V9x4 k1).fr = (V9x4 k1).fr) :: ((V9x4 k1).bl = (V9x4 k1).bl) :: DrawF lst1 n0L zsL ⟨13, [], lst1⟩ ⟨0, [], oZ⟩ ⟨352, [], oZ⟩ ⟨0, [], oZ⟩ ⟨13, [], .int .i64 k1⟩ :: True :: []) := by kernel_rfl
theorem g9_3_1 [Lst] (k k1 : Int) : holdsR (seg cx9 (sL (sR (sR (sR fun9.sc)))) (V9x3 0) [⟨32, [], oZ⟩, ⟨13, [], .int .i64 k1⟩] 0 [0, 4, 8, 10, 123, 166, 173] [] (V9x5 k1)) = allP (((V9x5 k1).fr = (V9x5 k1).fr) :: ((V9x5 k1).bl = (V9x5 k1).bl) :: DrawF lst1 n0L zsL ⟨13, [], lst1⟩ ⟨0, [], oZ⟩ ⟨352, [], oZ⟩ ⟨32, [], oZ⟩ ⟨13, [], .int .i64 k1⟩ :: True :: []) := by kernel_rfl
theorem g9_3_2 [Lst] (k k1 : Int) : holdsR (seg cx9 (sL (sR (sR (sR fun9.sc)))) (V9x3 0) [⟨64, [], oZ⟩, ⟨13, [], .int .i64 k1⟩] 0 [0, 4, 8, 10, 329, 395, 402] [] (V9x6 k1)) = allP (((V9x6 k1).fr = (V9x6 k1).fr) :: ((V9x6 k1).bl = (V9x6 k1).bl) :: DrawF lst1 n0L zsL ⟨13, [], lst1⟩ ⟨0, [], oZ⟩ ⟨352, [], oZ⟩ ⟨64, [], oZ⟩ ⟨13, [], .int .i64 k1⟩ :: True :: []) := by kernel_rfl
theorem g9_3_3 [Lst] (k k1 : Int) : holdsR (seg cx9 (sL (sR (sR (sR fun9.sc)))) (V9x3 0) [⟨96, [], oZ⟩, ⟨13, [], .int .i64 k1⟩] 0 [0, 4, 8, 10, 592, 680, 687] [] (V9x7 k1)) = allP (((V9x7 k1).fr = (V9x7 k1).fr) :: ((V9x7 k1).bl = (V9x7 k1).bl) :: DrawF lst1 n0L zsL ⟨13, [], lst1⟩ ⟨0, [], oZ⟩ ⟨352, [], oZ⟩ ⟨96, [], oZ⟩ ⟨13, [], .int .i64 k1⟩ :: True :: []) := by kernel_rfl
theorem g9_3_4 [Lst] (k k1 : Int) : holdsR (seg cx9 (sL (sR (sR (sR fun9.sc)))) (V9x3 0) [⟨128, [], oZ⟩, ⟨13, [], .int .i64 k1⟩] 0 [0, 4, 8, 10, 911, 1021, 1028] [] (V9x8 k1)) = allP (((V9x8 k1).fr = (V9x8 k1).fr) :: ((V9x8 k1).bl = (V9x8 k1).bl) :: DrawF lst1 n0L zsL ⟨13, [], lst1⟩ ⟨0, [], oZ⟩ ⟨352, [], oZ⟩ ⟨128, [], oZ⟩ ⟨13, [], .int .i64 k1⟩ :: True :: []) := by kernel_rfl
theorem g9_3_5 [Lst] (k k1 : Int) : holdsR (seg cx9 (sL (sR (sR (sR fun9.sc)))) (V9x3 0) [⟨160, [], oZ⟩, ⟨13, [], .int .i64 k1⟩] 0 [0, 4, 8, 10, 1286, 1418, 1425] [] (V9x9 k1)) = allP (((V9x9 k1).fr = (V9x9 k1).fr) :: ((V9x9 k1).bl = (V9x9 k1).bl) :: DrawF lst1 n0L zsL ⟨13, [], lst1⟩ ⟨0, [], oZ⟩ ⟨352, [], oZ⟩ ⟨160, [], oZ⟩ ⟨13, [], .int .i64 k1⟩ :: True :: []) := by kernel_rfl
end Go.M
