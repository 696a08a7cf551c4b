/-
  Rounds 1 to 8 of the loop of SendFull, run by the machine.
  The numbers are those of bytes.
-/
import Derived.Test.YtncnaejhbmnkbaaGreatAw7
import Derived.Test.YtncnaejhbmnkbaaGreatSt3
import Derived.KernelRfl
set_option linter.unusedVariables false
set_option linter.unusedSectionVars false
set_option maxRecDepth 100000
namespace Go.M
open Go Go.Proofs
theorem r01_0 (c d a r : Int) : RS (V42 c d a) [r8 r, M r, T_] 0 [0, 1, 3, 4, 5, 120, 124, 165, 169, 171] [124, 171] (V43 c d a) [flt 0 r T_, fc r, fr a r] := by unfold RS; kernel_rfl
theorem r01_1 (c d a r : Int) : RS (V43 c d a) [r8 r, M r, T_] 0 [0, 1, 2, 3, 4, 148, 152, 215, 219, 221] [152, 221] (V44 c d a) [flt 1 r T_, fc r, fr a r] := by unfold RS; kernel_rfl
theorem r01_2 (c d a r : Int) : RS (V44 c d a) [r8 r, M r, T_] 0 [0, 1, 2, 3, 4, 5, 253, 297, 301, 303] [253, 303] (V45 c d a) [flt 2 r T_, fc r, fr a r] := by unfold RS; kernel_rfl
theorem r01_3 (c d a r : Int) : RS (V45 c d a) [r8 r, M r, T_] 0 [0, 1, 2, 3, 4, 5, 253, 297, 301, 303] [253, 303] (V46 c d a) [flt 3 r T_, fc r, fr a r] := by unfold RS; kernel_rfl
theorem r01_4 (c d a r : Int) : RS (V46 c d a) [r8 r, M r, T_] 0 [0, 1, 2, 3, 4, 5, 253, 297, 301, 303] [253, 303] (V47 c d a) [flt 4 r T_, fc r, fr a r] := by unfold RS; kernel_rfl
theorem r01_5 (c d a r : Int) : RS (V47 c d a) [r8 r, M r, T_] 0 [0, 1, 2, 3, 4, 5, 253, 297, 301, 303] [253, 303] (V48 c d a) [flt 5 r T_, fc r, fr a r] := by unfold RS; kernel_rfl
theorem r01_6 (c d a r : Int) : RS (V48 c d a) [r8 r, M r, T_] 0 [0, 1, 2, 3, 4, 5, 253, 297, 301, 303] [253, 303] (V49 c d a) [flt 6 r T_, fc r, fr a r] := by unfold RS; kernel_rfl
theorem r01_7 (c d a r : Int) : RS (V49 c d a) [r8 r, M r, T_] 0 [0, 1, 2, 3, 4, 5, 253, 297, 301, 303] [253, 303] (V50 c d a) [flt 7 r T_, fc r, fr a r] := by unfold RS; kernel_rfl
end Go.M
