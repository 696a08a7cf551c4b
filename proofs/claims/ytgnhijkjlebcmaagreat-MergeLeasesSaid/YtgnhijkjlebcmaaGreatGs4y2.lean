/-
  MergeLeases in parts, run by the machine.
  The list's numbers come in as what the oracle says of each draw.
-/
import Derived.Test.YtgnhijkjlebcmaaGreatSt4
import Derived.KernelRfl
set_option linter.unusedVariables false
set_option linter.unusedSectionVars false
set_option maxRecDepth 100000
namespace Go.M
open Go Go.Proofs
theorem g4_4_2 [Lst] (k k1 : Int) : holdsR (seg cx4 (sL (sR (sR (sR (sR fun4.sc))))) (V4x4 0) [⟨64, [], oZ⟩, ⟨13, [], .int .i64 k1⟩] 0 [0, 1, 2, 3, 4, 8, 123, 172, 175, 339, 411, 414, 609, 612, 697, 704, 706, 707, 708] [] (V4x7 k1)) = allP (((V4x7 k1).fr = (V4x7 k1).fr) :: ((V4x7 k1).bl = (V4x7 k1).bl) :: DrawF lst1 n0L zsL ⟨13, [], lst1⟩ ⟨0, [], oZ⟩ ⟨192, [], oZ⟩ ⟨64, [], oZ⟩ ⟨13, [], .int .i64 k1⟩ :: True :: []) := by kernel_rfl
end Go.M
