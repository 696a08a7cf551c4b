/-
  MergeLeases in parts, run by the machine.
  The list's numbers come in as what the oracle says of each draw.
-/
import Derived.Test.YtgnhijkjlebcmaaGreatSt4
import Derived.KernelRfl
set_option linter.unusedVariables false
set_option linter.unusedSectionVars false
set_option maxRecDepth 100000
namespace Go.M
open Go Go.Proofs
theorem g4_4_0 [Lst] (k k1 : Int) : holdsR (seg cx4 (sL (sR (sR (sR (sR fun4.sc))))) (V4x4 0) [⟨0, [], oZ⟩, ⟨13, [], .int .i64 k1⟩] 0 [0, 1, 2, 3, 4, 8, 120, 123, 163, 170, 172, 173, 174] [] (V4x5 k1)) = allP (((V4x5 k1).fr = (V4x5 k1).fr) :: ((V4x5 k1).bl = (V4x5 k1).bl) :: DrawF lst1 n0L zsL ⟨13, [], lst1⟩ ⟨0, [], oZ⟩ ⟨192, [], oZ⟩ ⟨0, [], oZ⟩ ⟨13, [], .int .i64 k1⟩ :: True :: []) := by kernel_rfl
end Go.M
