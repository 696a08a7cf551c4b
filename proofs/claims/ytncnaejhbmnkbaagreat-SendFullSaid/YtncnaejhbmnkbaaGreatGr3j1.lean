/-
  Rounds 9 to 15 of the loop of SendFull, run by the machine.
  The numbers are those of bytes.
-/
import Derived.Test.YtncnaejhbmnkbaaGreatAw7
import Derived.Test.YtncnaejhbmnkbaaGreatSt3
import Derived.KernelRfl
set_option linter.unusedVariables false
set_option linter.unusedSectionVars false
set_option maxRecDepth 100000
namespace Go.M
open Go Go.Proofs
theorem r30_8 (c d a r : Int) : RS (V338 c d a) [r8 r, M r, T_] 0 [0, 1, 2, 3, 4, 5, 525, 553, 557, 559] [525, 559] (V339 c d a) [flt 8 r T_, fc r, fr a r] := by unfold RS; kernel_rfl
theorem r30_9 (c d a r : Int) : RS (V339 c d a) [r8 r, M r, T_] 0 [0, 1, 2, 3, 4, 5, 525, 553, 557, 559] [525, 559] (V340 c d a) [flt 9 r T_, fc r, fr a r] := by unfold RS; kernel_rfl
theorem r30_10 (c d a r : Int) : RS (V340 c d a) [r8 r, M r, T_] 0 [0, 1, 2, 3, 4, 5, 525, 553, 557, 559] [525, 559] (V341 c d a) [flt 10 r T_, fc r, fr a r] := by unfold RS; kernel_rfl
theorem r30_11 (c d a r : Int) : RS (V341 c d a) [r8 r, M r, T_] 0 [0, 1, 2, 3, 4, 5, 525, 553, 557, 559] [525, 559] (V342 c d a) [flt 11 r T_, fc r, fr a r] := by unfold RS; kernel_rfl
theorem r30_12 (c d a r : Int) : RS (V342 c d a) [r8 r, M r, T_] 0 [0, 1, 2, 3, 4, 5, 525, 553, 557, 559] [525, 559] (V343 c d a) [flt 12 r T_, fc r, fr a r] := by unfold RS; kernel_rfl
theorem r30_13 (c d a r : Int) : RS (V343 c d a) [r8 r, M r, T_] 0 [0, 1, 2, 3, 4, 5, 525, 553, 557, 559] [525, 559] (V344 c d a) [flt 13 r T_, fc r, fr a r] := by unfold RS; kernel_rfl
theorem r30_14 (c d a r : Int) : RS (V344 c d a) [r8 r, M r, T_] 0 [0, 1, 2, 3, 4, 5, 525, 553, 557, 559] [525, 559] (V345 c d a) [flt 14 r T_, fc r, fr a r] := by unfold RS; kernel_rfl
end Go.M
