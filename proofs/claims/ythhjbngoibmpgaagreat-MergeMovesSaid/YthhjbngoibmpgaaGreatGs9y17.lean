/-
  MergeMoves in parts, run by the machine.
  The list's numbers come in as what the oracle says of each draw.
-/
import Derived.Test.YthhjbngoibmpgaaGreatSt9
import Derived.KernelRfl
set_option linter.unusedVariables false
set_option linter.unusedSectionVars false
set_option maxRecDepth 100000
namespace Go.M
open Go Go.Proofs
theorem hf9_10_0 [Lst] (k : Int) : holdsR (segR cx9 (sB (sB (sR (sL (sR (sR (sR (sR (sR (sR (sR (sR fun9.sc)))))))))))) 40 (V9x30 k) [] 2 [0, 5, 2454, 2456, 3481, 4329, 4633, 5053] [5053, 5, 0, 2456, 2454, 3481, 4329] (V9x31 k)) = allP (((V9x31 k).fr = (V9x31 k).fr) :: ((V9x31 k).bl = (V9x31 k).bl) :: []) := by kernel_rfl
theorem hg9_10_0 [Lst] (k : Int) : holdsR (segE cx9 fun9.res (sR (sR (sR (sR (sR (sR (sR (sR (sR fun9.sc))))))))) (V9x31 k) []) = allP [] := by kernel_rfl
theorem ha9_10_1 [Lst] (k k1 : Int) : holdsR (seg cx9 (sL (sR (sR (sR (sR (sR fun9.sc)))))) (V9x25 k) [⟨32, [], oZ⟩, ⟨13, [], .int .i64 k1⟩] 0 [0, 1, 2, 3, 4, 5, 6, 7] [0] (V9x32 k1)) = allP (((V9x32 k1).fr = (V9x32 k1).fr) :: ((V9x32 k1).bl = (V9x32 k1).bl) :: DrawF lst1 n0L zsL ⟨13, [], lst1⟩ ⟨13, [], .int .i64 k⟩ ⟨64, [], oZ⟩ ⟨32, [], oZ⟩ ⟨13, [], .int .i64 k1⟩ :: True :: []) := by kernel_rfl
theorem hb9_10_1 [Lst] (k : Int) : holdsR (seg cx9 (sL (sR (sR (sR (sR (sR (sR fun9.sc))))))) (V9x32 k) [] 0 [0, 1, 2, 3, 4, 5, 6, 7] [0] (V9x33 k)) = allP (((V9x33 k).fr = (V9x33 k).fr) :: ((V9x33 k).bl = (V9x33 k).bl) :: []) := by kernel_rfl
theorem hc9_10_1 [Lst] (k : Int) : holdsR (seg cx9 (sL (sR (sR (sR (sR (sR (sR (sR fun9.sc)))))))) (V9x33 k) [] 0 [0, 1, 2, 3, 4, 5, 6, 7] [0] (V9x34 k)) = allP (((V9x34 k).fr = (V9x34 k).fr) :: ((V9x34 k).bl = (V9x34 k).bl) :: []) := by kernel_rfl
theorem hd9_10_1 [Lst] (k : Int) : holdsR (seg cx9 (sL (sL (sR (sR (sR (sR (sR (sR (sR (sR fun9.sc)))))))))) (V9x34 k) [] 0 [0, 1, 2, 3, 4, 5, 6, 7] [0] (V9x35 k)) = allP (((V9x35 k).fr = (V9x35 k).fr) :: ((V9x35 k).bl = (V9x35 k).bl) :: []) := by kernel_rfl
end Go.M
