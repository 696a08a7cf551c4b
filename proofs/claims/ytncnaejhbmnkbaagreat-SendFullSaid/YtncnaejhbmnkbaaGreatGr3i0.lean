/-
  Rounds 1 to 8 of the loop of SendFull, run by the machine.
  The numbers are those of bytes.
-/
import Derived.Test.YtncnaejhbmnkbaaGreatAw7
import Derived.Test.YtncnaejhbmnkbaaGreatSt3
import Derived.KernelRfl
set_option linter.unusedVariables false
set_option linter.unusedSectionVars false
set_option maxRecDepth 100000
namespace Go.M
open Go Go.Proofs
theorem r22_0 (c d a r : Int) : RS (V294 c d a) [r8 r, M r, T_] 0 [0, 1, 2, 3, 5, 128, 132, 173, 177, 179] [132, 179] (V295 c d a) [flt 0 r T_, fc r, fr a r] := by unfold RS; kernel_rfl
theorem r22_1 (c d a r : Int) : RS (V295 c d a) [r8 r, M r, T_] 0 [0, 1, 2, 3, 4, 156, 160, 223, 227, 229] [160, 229] (V296 c d a) [flt 1 r T_, fc r, fr a r] := by unfold RS; kernel_rfl
theorem r22_2 (c d a r : Int) : RS (V296 c d a) [r8 r, M r, T_] 0 [0, 1, 2, 3, 4, 182, 186, 271, 275, 277] [186, 277] (V297 c d a) [flt 2 r T_, fc r, fr a r] := by unfold RS; kernel_rfl
theorem r22_3 (c d a r : Int) : RS (V297 c d a) [r8 r, M r, T_] 0 [0, 1, 2, 4, 5, 130, 134, 175, 179, 181] [134, 181] (V298 c d a) [flt 3 r T_, fc r, fr a r] := by unfold RS; kernel_rfl
theorem r22_4 (c d a r : Int) : RS (V298 c d a) [r8 r, M r, T_] 0 [0, 1, 3, 4, 5, 284, 288, 329, 333, 335] [288, 335] (V299 c d a) [flt 4 r T_, fc r, fr a r] := by unfold RS; kernel_rfl
theorem r22_5 (c d a r : Int) : RS (V299 c d a) [r8 r, M r, T_] 0 [0, 1, 2, 3, 4, 310, 314, 377, 381, 383] [314, 383] (V300 c d a) [flt 5 r T_, fc r, fr a r] := by unfold RS; kernel_rfl
theorem r22_6 (c d a r : Int) : RS (V300 c d a) [r8 r, M r, T_] 0 [0, 1, 2, 3, 4, 336, 340, 425, 429, 431] [340, 431] (V301 c d a) [flt 6 r T_, fc r, fr a r] := by unfold RS; kernel_rfl
theorem r22_7 (c d a r : Int) : RS (V301 c d a) [r8 r, M r, T_] 0 [0, 1, 2, 3, 5, 310, 314, 377, 381, 383] [314, 383] (V302 c d a) [flt 7 r T_, fc r, fr a r] := by unfold RS; kernel_rfl
end Go.M
