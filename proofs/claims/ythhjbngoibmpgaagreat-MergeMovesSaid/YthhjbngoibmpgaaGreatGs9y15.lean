/-
  MergeMoves in parts, run by the machine.
  The list's numbers come in as what the oracle says of each draw.
-/
import Derived.Test.YthhjbngoibmpgaaGreatSt9
import Derived.KernelRfl
set_option linter.unusedVariables false
set_option linter.unusedSectionVars false
set_option maxRecDepth 100000
namespace Go.M
open Go Go.Proofs
theorem e9_9_1 [Lst] (k k1 : Int) : holdsR (segE cx9 fun9.res (sR (sR (sR (sR (sR fun9.sc))))) (V9x24 k) [⟨32, [], oZ⟩, ⟨13, [], .int .i64 k1⟩]) = allP (DrawF lst1 n0L zsL ⟨13, [], lst1⟩ ⟨13, [], .int .i64 k⟩ ⟨64, [], oZ⟩ ⟨32, [], oZ⟩ ⟨13, [], .int .i64 k1⟩ :: True :: []) := by kernel_rfl
theorem ha9_10_0 [Lst] (k k1 : Int) : holdsR (seg cx9 (sL (sR (sR (sR (sR (sR fun9.sc)))))) (V9x25 k) [⟨0, [], oZ⟩, ⟨13, [], .int .i64 k1⟩] 0 [0, 1, 2, 3, 4, 5, 6, 7] [0] (V9x26 k1)) = allP (((V9x26 k1).fr = (V9x26 k1).fr) :: ((V9x26 k1).bl = (V9x26 k1).bl) :: DrawF lst1 n0L zsL ⟨13, [], lst1⟩ ⟨13, [], .int .i64 k⟩ ⟨64, [], oZ⟩ ⟨0, [], oZ⟩ ⟨13, [], .int .i64 k1⟩ :: True :: []) := by kernel_rfl
theorem hb9_10_0 [Lst] (k : Int) : holdsR (seg cx9 (sL (sR (sR (sR (sR (sR (sR fun9.sc))))))) (V9x26 k) [] 0 [0, 1, 2, 3, 4, 5, 6, 7] [0] (V9x27 k)) = allP (((V9x27 k).fr = (V9x27 k).fr) :: ((V9x27 k).bl = (V9x27 k).bl) :: []) := by kernel_rfl
theorem hc9_10_0 [Lst] (k : Int) : holdsR (seg cx9 (sL (sR (sR (sR (sR (sR (sR (sR fun9.sc)))))))) (V9x27 k) [] 0 [0, 1, 2, 3, 4, 5, 6, 7] [0] (V9x28 k)) = allP (((V9x28 k).fr = (V9x28 k).fr) :: ((V9x28 k).bl = (V9x28 k).bl) :: []) := by kernel_rfl
theorem hd9_10_0 [Lst] (k : Int) : holdsR (seg cx9 (sL (sL (sR (sR (sR (sR (sR (sR (sR (sR fun9.sc)))))))))) (V9x28 k) [] 0 [0, 1, 2, 3, 4, 5, 6, 7] [0] (V9x29 k)) = allP (((V9x29 k).fr = (V9x29 k).fr) :: ((V9x29 k).bl = (V9x29 k).bl) :: []) := by kernel_rfl
end Go.M
