/-
  Rounds 1 to 8 of the loop of SendFull, run by the machine.
  The numbers are those of bytes.
-/
import Derived.Test.YtncnaejhbmnkbaaGreatAw7
import Derived.Test.YtncnaejhbmnkbaaGreatSt3
import Derived.KernelRfl
set_option linter.unusedVariables false
set_option linter.unusedSectionVars false
set_option maxRecDepth 100000
namespace Go.M
open Go Go.Proofs
theorem r31_0 (c d a r : Int) : RS (V366 c d a) [r8 r, M r, T_] 0 [0, 1, 2, 3, 5, 132, 136, 177, 181, 183] [136, 183] (V367 c d a) [flt 0 r T_, fc r, fr a r] := by unfold RS; kernel_rfl
theorem r31_1 (c d a r : Int) : RS (V367 c d a) [r8 r, M r, T_] 0 [0, 1, 2, 3, 4, 160, 164, 227, 231, 233] [164, 233] (V368 c d a) [flt 1 r T_, fc r, fr a r] := by unfold RS; kernel_rfl
theorem r31_2 (c d a r : Int) : RS (V368 c d a) [r8 r, M r, T_] 0 [0, 1, 2, 3, 5, 261, 265, 306, 310, 312] [265, 312] (V369 c d a) [flt 2 r T_, fc r, fr a r] := by unfold RS; kernel_rfl
theorem r31_3 (c d a r : Int) : RS (V369 c d a) [r8 r, M r, T_] 0 [0, 1, 2, 3, 4, 287, 291, 354, 358, 360] [291, 360] (V370 c d a) [flt 3 r T_, fc r, fr a r] := by unfold RS; kernel_rfl
theorem r31_4 (c d a r : Int) : RS (V370 c d a) [r8 r, M r, T_] 0 [0, 1, 3, 4, 5, 388, 392, 433, 437, 439] [392, 439] (V371 c d a) [flt 4 r T_, fc r, fr a r] := by unfold RS; kernel_rfl
theorem r31_5 (c d a r : Int) : RS (V371 c d a) [r8 r, M r, T_] 0 [0, 1, 2, 3, 4, 414, 418, 481, 485, 487] [418, 487] (V372 c d a) [flt 5 r T_, fc r, fr a r] := by unfold RS; kernel_rfl
theorem r31_6 (c d a r : Int) : RS (V372 c d a) [r8 r, M r, T_] 0 [0, 1, 3, 4, 5, 515, 519, 560, 564, 566] [519, 566] (V373 c d a) [flt 6 r T_, fc r, fr a r] := by unfold RS; kernel_rfl
theorem r31_7 (c d a r : Int) : RS (V373 c d a) [r8 r, M r, T_] 0 [0, 1, 2, 3, 4, 160, 164, 227, 231, 233] [164, 233] (V374 c d a) [flt 7 r T_, fc r, fr a r] := by unfold RS; kernel_rfl
end Go.M
