/-
  MergeMoves in parts, run by the machine.
  The list's numbers come in as what the oracle says of each draw.
-/
import Derived.Test.YthhjbngoibmpgaaGreatSt9
import Derived.KernelRfl
set_option linter.unusedVariables false
set_option linter.unusedSectionVars false
set_option maxRecDepth 100000
namespace Go.M
open Go Go.Proofs
theorem g9_3_10 [Lst] (k k1 : Int) : holdsR (seg cx9 (sL (sR (sR (sR fun9.sc)))) (V9x3 0) [⟨320, [], oZ⟩, ⟨13, [], .int .i64 k1⟩] 0 [0, 4, 8, 2711, 3144, 3342, 3349] [] (V9x14 k1)) = allP (((V9x14 k1).fr = (V9x14 k1).fr) :: ((V9x14 k1).bl = (V9x14 k1).bl) :: DrawF lst1 n0L zsL ⟨13, [], lst1⟩ ⟨0, [], oZ⟩ ⟨352, [], oZ⟩ ⟨320, [], oZ⟩ ⟨13, [], .int .i64 k1⟩ :: True :: []) := by kernel_rfl
theorem g9_4_0 [Lst] (k : Int) : holdsR (seg cx9 (sL (sR (sR (sR (sR fun9.sc))))) (V9x4 k) [] 0 [0, 1, 2, 3, 4, 5, 6] [] (V9x15 k)) = allP (((V9x15 k).fr = (V9x15 k).fr) :: ((V9x15 k).bl = (V9x15 k).bl) :: []) := by kernel_rfl
theorem g9_4_1 [Lst] (k : Int) : holdsR (seg cx9 (sL (sR (sR (sR (sR fun9.sc))))) (V9x5 k) [] 0 [0, 1, 2, 3, 4, 5, 6, 12] [] (V9x16 k)) = allP (((V9x16 k).fr = (V9x16 k).fr) :: ((V9x16 k).bl = (V9x16 k).bl) :: []) := by kernel_rfl
theorem g9_4_2 [Lst] (k : Int) : holdsR (seg cx9 (sL (sR (sR (sR (sR fun9.sc))))) (V9x6 k) [] 0 [0, 1, 2, 3, 4, 5, 6, 16] [] (V9x17 k)) = allP (((V9x17 k).fr = (V9x17 k).fr) :: ((V9x17 k).bl = (V9x17 k).bl) :: []) := by kernel_rfl
theorem g9_4_3 [Lst] (k : Int) : holdsR (seg cx9 (sL (sR (sR (sR (sR fun9.sc))))) (V9x7 k) [] 0 [0, 1, 2, 3, 4, 5, 6, 20] [] (V9x18 k)) = allP (((V9x18 k).fr = (V9x18 k).fr) :: ((V9x18 k).bl = (V9x18 k).bl) :: []) := by kernel_rfl
theorem g9_4_4 [Lst] (k : Int) : holdsR (seg cx9 (sL (sR (sR (sR (sR fun9.sc))))) (V9x8 k) [] 0 [0, 1, 2, 3, 4, 5, 6, 24] [] (V9x19 k)) = allP (((V9x19 k).fr = (V9x19 k).fr) :: ((V9x19 k).bl = (V9x19 k).bl) :: []) := by kernel_rfl
theorem g9_4_5 [Lst] (k : Int) : holdsR (seg cx9 (sL (sR (sR (sR (sR fun9.sc))))) (V9x9 k) [] 0 [0, 1, 2, 3, 4, 5, 6, 28] [] (V9x20 k)) = allP (((V9x20 k).fr = (V9x20 k).fr) :: ((V9x20 k).bl = (V9x20 k).bl) :: []) := by kernel_rfl
theorem g9_4_6 [Lst] (k : Int) : holdsR (seg cx9 (sL (sR (sR (sR (sR fun9.sc))))) (V9x10 k) [] 0 [0, 1, 2, 3, 4, 5, 6, 32] [] (V9x21 k)) = allP (((V9x21 k).fr = (V9x21 k).fr) :: ((V9x21 k).bl = (V9x21 k).bl) :: []) := by kernel_rfl
theorem g9_4_7 [Lst] (k : Int) : holdsR (seg cx9 (sL (sR (sR (sR (sR fun9.sc))))) (V9x11 k) [] 0 [0, 1, 2, 3, 4, 5, 6, 36] [] (V9x22 k)) = allP (((V9x22 k).fr = (V9x22 k).fr) :: ((V9x22 k).bl = (V9x22 k).bl) :: []) := by kernel_rfl
theorem g9_4_8 [Lst] (k : Int) : holdsR (seg cx9 (sL (sR (sR (sR (sR fun9.sc))))) (V9x12 k) [] 0 [0, 1, 2, 3, 4, 5, 6, 41] [] (V9x23 k)) = allP (((V9x23 k).fr = (V9x23 k).fr) :: ((V9x23 k).bl = (V9x23 k).bl) :: []) := by kernel_rfl
theorem g9_4_9 [Lst] (k : Int) : holdsR (seg cx9 (sL (sR (sR (sR (sR fun9.sc))))) (V9x13 k) [] 0 [0, 1, 2, 3, 4, 5, 6, 45] [] (V9x24 k)) = allP (((V9x24 k).fr = (V9x24 k).fr) :: ((V9x24 k).bl = (V9x24 k).bl) :: []) := by kernel_rfl
theorem g9_4_10 [Lst] (k : Int) : holdsR (seg cx9 (sL (sR (sR (sR (sR fun9.sc))))) (V9x14 k) [] 0 [0, 1, 2, 3, 4, 5, 6, 49] [] (V9x25 k)) = allP (((V9x25 k).fr = (V9x25 k).fr) :: ((V9x25 k).bl = (V9x25 k).bl) :: []) := by kernel_rfl
theorem e9_0_0 [Lst] (k k1 : Int) : holdsR (segE cx9 fun9.res (sR (sR (sR (sR (sR fun9.sc))))) (V9x15 k) [⟨0, [], oZ⟩, ⟨13, [], .int .i64 k1⟩]) = allP (DrawF lst1 n0L zsL ⟨13, [], lst1⟩ ⟨13, [], .int .i64 k⟩ ⟨64, [], oZ⟩ ⟨0, [], oZ⟩ ⟨13, [], .int .i64 k1⟩ :: True :: []) := by kernel_rfl
theorem e9_0_1 [Lst] (k k1 : Int) : holdsR (segE cx9 fun9.res (sR (sR (sR (sR (sR fun9.sc))))) (V9x15 k) [⟨32, [], oZ⟩, ⟨13, [], .int .i64 k1⟩]) = allP (DrawF lst1 n0L zsL ⟨13, [], lst1⟩ ⟨13, [], .int .i64 k⟩ ⟨64, [], oZ⟩ ⟨32, [], oZ⟩ ⟨13, [], .int .i64 k1⟩ :: True :: []) := by kernel_rfl
end Go.M
