/-
  Rounds 1 to 8 of the loop of SendFull, run by the machine.
  The numbers are those of bytes.
-/
import Derived.Test.YtncnaejhbmnkbaaGreatAw7
import Derived.Test.YtncnaejhbmnkbaaGreatSt3
import Derived.KernelRfl
set_option linter.unusedVariables false
set_option linter.unusedSectionVars false
set_option maxRecDepth 100000
namespace Go.M
open Go Go.Proofs
theorem r00_0 (c d a r : Int) : RS (V6 c d a) [r8 r, M r, T_] 0 [0, 1, 3, 4, 5, 120, 124, 165, 169, 171] [124, 171] (V7 c d a) [flt 0 r T_, fc r, fr a r] := by unfold RS; kernel_rfl
theorem r00_1 (c d a r : Int) : RS (V7 c d a) [r8 r, M r, T_] 0 [0, 1, 2, 3, 4, 5, 213, 241, 245, 247] [213, 247] (V8 c d a) [flt 1 r T_, fc r, fr a r] := by unfold RS; kernel_rfl
theorem r00_2 (c d a r : Int) : RS (V8 c d a) [r8 r, M r, T_] 0 [0, 1, 2, 3, 4, 5, 213, 241, 245, 247] [213, 247] (V9 c d a) [flt 2 r T_, fc r, fr a r] := by unfold RS; kernel_rfl
theorem r00_3 (c d a r : Int) : RS (V9 c d a) [r8 r, M r, T_] 0 [0, 1, 2, 3, 4, 5, 213, 241, 245, 247] [213, 247] (V10 c d a) [flt 3 r T_, fc r, fr a r] := by unfold RS; kernel_rfl
theorem r00_4 (c d a r : Int) : RS (V10 c d a) [r8 r, M r, T_] 0 [0, 1, 2, 3, 4, 5, 213, 241, 245, 247] [213, 247] (V11 c d a) [flt 4 r T_, fc r, fr a r] := by unfold RS; kernel_rfl
theorem r00_5 (c d a r : Int) : RS (V11 c d a) [r8 r, M r, T_] 0 [0, 1, 2, 3, 4, 5, 213, 241, 245, 247] [213, 247] (V12 c d a) [flt 5 r T_, fc r, fr a r] := by unfold RS; kernel_rfl
theorem r00_6 (c d a r : Int) : RS (V12 c d a) [r8 r, M r, T_] 0 [0, 1, 2, 3, 4, 5, 213, 241, 245, 247] [213, 247] (V13 c d a) [flt 6 r T_, fc r, fr a r] := by unfold RS; kernel_rfl
theorem r00_7 (c d a r : Int) : RS (V13 c d a) [r8 r, M r, T_] 0 [0, 1, 2, 3, 4, 5, 213, 241, 245, 247] [213, 247] (V14 c d a) [flt 7 r T_, fc r, fr a r] := by unfold RS; kernel_rfl
end Go.M
