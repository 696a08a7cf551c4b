/-
  SplitLeases in parts, run by the machine.
  The list's numbers come in as what the oracle says of each draw.
-/
import Derived.Test.YtgnhijkjlebcmaaGreatSt3
import Derived.KernelRfl
set_option linter.unusedVariables false
set_option linter.unusedSectionVars false
set_option maxRecDepth 100000
namespace Go.M
open Go Go.Proofs
theorem g3_4_0 [Lst] (k k1 : Int) : holdsR (seg cx3 (sL (sR (sR (sR (sR fun3.sc))))) (V3x4 0) [⟨0, [], oZ⟩, ⟨13, [], .int .i64 k1⟩] 0 [0, 1, 2, 4, 5, 8, 114, 117, 157, 164, 166, 167, 168] [] (V3x5 k1)) = allP (((V3x5 k1).fr = (V3x5 k1).fr) :: ((V3x5 k1).bl = (V3x5 k1).bl) :: DrawF lst1 n0L zsL ⟨13, [], lst1⟩ ⟨0, [], oZ⟩ ⟨160, [], oZ⟩ ⟨0, [], oZ⟩ ⟨13, [], .int .i64 k1⟩ :: True :: []) := by kernel_rfl
theorem g3_4_1 [Lst] (k k1 : Int) : holdsR (seg cx3 (sL (sR (sR (sR (sR fun3.sc))))) (V3x4 0) [⟨32, [], oZ⟩, ⟨13, [], .int .i64 k1⟩] 0 [0, 1, 2, 4, 5, 8, 117, 166, 169, 324, 327, 390, 397, 399, 400, 401] [] (V3x6 k1)) = allP (((V3x6 k1).fr = (V3x6 k1).fr) :: ((V3x6 k1).bl = (V3x6 k1).bl) :: DrawF lst1 n0L zsL ⟨13, [], lst1⟩ ⟨0, [], oZ⟩ ⟨160, [], oZ⟩ ⟨32, [], oZ⟩ ⟨13, [], .int .i64 k1⟩ :: True :: []) := by kernel_rfl
theorem g3_4_2 [Lst] (k k1 : Int) : holdsR (seg cx3 (sL (sR (sR (sR (sR fun3.sc))))) (V3x4 0) [⟨64, [], oZ⟩, ⟨13, [], .int .i64 k1⟩] 0 [0, 1, 2, 4, 5, 8, 117, 166, 169, 327, 399, 402, 591, 594, 679, 686, 688, 689, 690] [] (V3x7 k1)) = allP (((V3x7 k1).fr = (V3x7 k1).fr) :: ((V3x7 k1).bl = (V3x7 k1).bl) :: DrawF lst1 n0L zsL ⟨13, [], lst1⟩ ⟨0, [], oZ⟩ ⟨160, [], oZ⟩ ⟨64, [], oZ⟩ ⟨13, [], .int .i64 k1⟩ :: True :: []) := by kernel_rfl
theorem g3_4_3 [Lst] (k k1 : Int) : holdsR (seg cx3 (sL (sR (sR (sR (sR fun3.sc))))) (V3x4 0) [⟨96, [], oZ⟩, ⟨13, [], .int .i64 k1⟩] 0 [0, 1, 2, 4, 5, 8, 117, 166, 169, 327, 399, 402, 594, 688, 691, 914, 917, 1024, 1031, 1033, 1034, 1035] [] (V3x8 k1)) = allP (((V3x8 k1).fr = (V3x8 k1).fr) :: ((V3x8 k1).bl = (V3x8 k1).bl) :: DrawF lst1 n0L zsL ⟨13, [], lst1⟩ ⟨0, [], oZ⟩ ⟨160, [], oZ⟩ ⟨96, [], oZ⟩ ⟨13, [], .int .i64 k1⟩ :: True :: []) := by kernel_rfl
end Go.M
