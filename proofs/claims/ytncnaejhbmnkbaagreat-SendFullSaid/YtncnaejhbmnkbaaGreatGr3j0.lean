/-
  Rounds 1 to 8 of the loop of SendFull, run by the machine.
  The numbers are those of bytes.
-/
import Derived.Test.YtncnaejhbmnkbaaGreatAw7
import Derived.Test.YtncnaejhbmnkbaaGreatSt3
import Derived.KernelRfl
set_option linter.unusedVariables false
set_option linter.unusedSectionVars false
set_option maxRecDepth 100000
namespace Go.M
open Go Go.Proofs
theorem r30_0 (c d a r : Int) : RS (V330 c d a) [r8 r, M r, T_] 0 [0, 1, 2, 3, 5, 132, 136, 177, 181, 183] [136, 183] (V331 c d a) [flt 0 r T_, fc r, fr a r] := by unfold RS; kernel_rfl
theorem r30_1 (c d a r : Int) : RS (V331 c d a) [r8 r, M r, T_] 0 [0, 1, 2, 3, 5, 233, 237, 278, 282, 284] [237, 284] (V332 c d a) [flt 1 r T_, fc r, fr a r] := by unfold RS; kernel_rfl
theorem r30_2 (c d a r : Int) : RS (V332 c d a) [r8 r, M r, T_] 0 [0, 1, 3, 4, 5, 332, 336, 377, 381, 383] [336, 383] (V333 c d a) [flt 2 r T_, fc r, fr a r] := by unfold RS; kernel_rfl
theorem r30_3 (c d a r : Int) : RS (V333 c d a) [r8 r, M r, T_] 0 [0, 1, 3, 4, 5, 431, 435, 476, 480, 482] [435, 482] (V334 c d a) [flt 3 r T_, fc r, fr a r] := by unfold RS; kernel_rfl
theorem r30_4 (c d a r : Int) : RS (V334 c d a) [r8 r, M r, T_] 0 [0, 1, 2, 3, 4, 5, 525, 553, 557, 559] [525, 559] (V335 c d a) [flt 4 r T_, fc r, fr a r] := by unfold RS; kernel_rfl
theorem r30_5 (c d a r : Int) : RS (V335 c d a) [r8 r, M r, T_] 0 [0, 1, 2, 3, 4, 5, 525, 553, 557, 559] [525, 559] (V336 c d a) [flt 5 r T_, fc r, fr a r] := by unfold RS; kernel_rfl
theorem r30_6 (c d a r : Int) : RS (V336 c d a) [r8 r, M r, T_] 0 [0, 1, 2, 3, 4, 5, 525, 553, 557, 559] [525, 559] (V337 c d a) [flt 6 r T_, fc r, fr a r] := by unfold RS; kernel_rfl
theorem r30_7 (c d a r : Int) : RS (V337 c d a) [r8 r, M r, T_] 0 [0, 1, 2, 3, 4, 5, 525, 553, 557, 559] [525, 559] (V338 c d a) [flt 7 r T_, fc r, fr a r] := by unfold RS; kernel_rfl
end Go.M
