/-
  Rounds 9 to 15 of the loop of SendFull, run by the machine.
  The numbers are those of bytes.
-/
import Derived.Test.YtncnaejhbmnkbaaGreatAw7
import Derived.Test.YtncnaejhbmnkbaaGreatSt3
import Derived.KernelRfl
set_option linter.unusedVariables false
set_option linter.unusedSectionVars false
set_option maxRecDepth 100000
namespace Go.M
open Go Go.Proofs
theorem r01_8 (c d a r : Int) : RS (V50 c d a) [r8 r, M r, T_] 0 [0, 1, 2, 3, 4, 5, 253, 297, 301, 303] [253, 303] (V51 c d a) [flt 8 r T_, fc r, fr a r] := by unfold RS; kernel_rfl
theorem r01_9 (c d a r : Int) : RS (V51 c d a) [r8 r, M r, T_] 0 [0, 1, 2, 3, 4, 5, 253, 297, 301, 303] [253, 303] (V52 c d a) [flt 9 r T_, fc r, fr a r] := by unfold RS; kernel_rfl
theorem r01_10 (c d a r : Int) : RS (V52 c d a) [r8 r, M r, T_] 0 [0, 1, 2, 3, 4, 5, 253, 297, 301, 303] [253, 303] (V53 c d a) [flt 10 r T_, fc r, fr a r] := by unfold RS; kernel_rfl
theorem r01_11 (c d a r : Int) : RS (V53 c d a) [r8 r, M r, T_] 0 [0, 1, 2, 3, 4, 5, 253, 297, 301, 303] [253, 303] (V54 c d a) [flt 11 r T_, fc r, fr a r] := by unfold RS; kernel_rfl
theorem r01_12 (c d a r : Int) : RS (V54 c d a) [r8 r, M r, T_] 0 [0, 1, 2, 3, 4, 5, 253, 297, 301, 303] [253, 303] (V55 c d a) [flt 12 r T_, fc r, fr a r] := by unfold RS; kernel_rfl
theorem r01_13 (c d a r : Int) : RS (V55 c d a) [r8 r, M r, T_] 0 [0, 1, 2, 3, 4, 5, 253, 297, 301, 303] [253, 303] (V56 c d a) [flt 13 r T_, fc r, fr a r] := by unfold RS; kernel_rfl
theorem r01_14 (c d a r : Int) : RS (V56 c d a) [r8 r, M r, T_] 0 [0, 1, 2, 3, 4, 5, 253, 297, 301, 303] [253, 303] (V57 c d a) [flt 14 r T_, fc r, fr a r] := by unfold RS; kernel_rfl
end Go.M
