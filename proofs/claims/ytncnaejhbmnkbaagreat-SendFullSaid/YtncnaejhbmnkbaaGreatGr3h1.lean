/-
  Rounds 9 to 15 of the loop of SendFull, run by the machine.
  The numbers are those of bytes.
-/
import Derived.Test.YtncnaejhbmnkbaaGreatAw7
import Derived.Test.YtncnaejhbmnkbaaGreatSt3
import Derived.KernelRfl
set_option linter.unusedVariables false
set_option linter.unusedSectionVars false
set_option maxRecDepth 100000
namespace Go.M
open Go Go.Proofs
theorem r21_8 (c d a r : Int) : RS (V266 c d a) [r8 r, M r, T_] 0 [0, 1, 2, 3, 4, 5, 515, 559, 563, 565] [515, 565] (V267 c d a) [flt 8 r T_, fc r, fr a r] := by unfold RS; kernel_rfl
theorem r21_9 (c d a r : Int) : RS (V267 c d a) [r8 r, M r, T_] 0 [0, 1, 2, 3, 4, 5, 515, 559, 563, 565] [515, 565] (V268 c d a) [flt 9 r T_, fc r, fr a r] := by unfold RS; kernel_rfl
theorem r21_10 (c d a r : Int) : RS (V268 c d a) [r8 r, M r, T_] 0 [0, 1, 2, 3, 4, 5, 515, 559, 563, 565] [515, 565] (V269 c d a) [flt 10 r T_, fc r, fr a r] := by unfold RS; kernel_rfl
theorem r21_11 (c d a r : Int) : RS (V269 c d a) [r8 r, M r, T_] 0 [0, 1, 2, 3, 4, 5, 515, 559, 563, 565] [515, 565] (V270 c d a) [flt 11 r T_, fc r, fr a r] := by unfold RS; kernel_rfl
theorem r21_12 (c d a r : Int) : RS (V270 c d a) [r8 r, M r, T_] 0 [0, 1, 2, 3, 4, 5, 515, 559, 563, 565] [515, 565] (V271 c d a) [flt 12 r T_, fc r, fr a r] := by unfold RS; kernel_rfl
theorem r21_13 (c d a r : Int) : RS (V271 c d a) [r8 r, M r, T_] 0 [0, 1, 2, 3, 4, 5, 515, 559, 563, 565] [515, 565] (V272 c d a) [flt 13 r T_, fc r, fr a r] := by unfold RS; kernel_rfl
theorem r21_14 (c d a r : Int) : RS (V272 c d a) [r8 r, M r, T_] 0 [0, 1, 2, 3, 4, 5, 515, 559, 563, 565] [515, 565] (V273 c d a) [flt 14 r T_, fc r, fr a r] := by unfold RS; kernel_rfl
end Go.M
