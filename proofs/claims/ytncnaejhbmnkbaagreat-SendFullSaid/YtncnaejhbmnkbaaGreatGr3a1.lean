/-
  Rounds 9 to 15 of the loop of SendFull, run by the machine.
  The numbers are those of bytes.
-/
import Derived.Test.YtncnaejhbmnkbaaGreatAw7
import Derived.Test.YtncnaejhbmnkbaaGreatSt3
import Derived.KernelRfl
set_option linter.unusedVariables false
set_option linter.unusedSectionVars false
set_option maxRecDepth 100000
namespace Go.M
open Go Go.Proofs
theorem r00_8 (c d a r : Int) : RS (V14 c d a) [r8 r, M r, T_] 0 [0, 1, 2, 3, 4, 5, 213, 241, 245, 247] [213, 247] (V15 c d a) [flt 8 r T_, fc r, fr a r] := by unfold RS; kernel_rfl
theorem r00_9 (c d a r : Int) : RS (V15 c d a) [r8 r, M r, T_] 0 [0, 1, 2, 3, 4, 5, 213, 241, 245, 247] [213, 247] (V16 c d a) [flt 9 r T_, fc r, fr a r] := by unfold RS; kernel_rfl
theorem r00_10 (c d a r : Int) : RS (V16 c d a) [r8 r, M r, T_] 0 [0, 1, 2, 3, 4, 5, 213, 241, 245, 247] [213, 247] (V17 c d a) [flt 10 r T_, fc r, fr a r] := by unfold RS; kernel_rfl
theorem r00_11 (c d a r : Int) : RS (V17 c d a) [r8 r, M r, T_] 0 [0, 1, 2, 3, 4, 5, 213, 241, 245, 247] [213, 247] (V18 c d a) [flt 11 r T_, fc r, fr a r] := by unfold RS; kernel_rfl
theorem r00_12 (c d a r : Int) : RS (V18 c d a) [r8 r, M r, T_] 0 [0, 1, 2, 3, 4, 5, 213, 241, 245, 247] [213, 247] (V19 c d a) [flt 12 r T_, fc r, fr a r] := by unfold RS; kernel_rfl
theorem r00_13 (c d a r : Int) : RS (V19 c d a) [r8 r, M r, T_] 0 [0, 1, 2, 3, 4, 5, 213, 241, 245, 247] [213, 247] (V20 c d a) [flt 13 r T_, fc r, fr a r] := by unfold RS; kernel_rfl
theorem r00_14 (c d a r : Int) : RS (V20 c d a) [r8 r, M r, T_] 0 [0, 1, 2, 3, 4, 5, 213, 241, 245, 247] [213, 247] (V21 c d a) [flt 14 r T_, fc r, fr a r] := by unfold RS; kernel_rfl
end Go.M
