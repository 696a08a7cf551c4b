/-
  Rounds 9 to 15 of the loop of SendFull, run by the machine.
  The numbers are those of bytes.
-/
import Derived.Test.YtncnaejhbmnkbaaGreatAw7
import Derived.Test.YtncnaejhbmnkbaaGreatSt3
import Derived.KernelRfl
set_option linter.unusedVariables false
set_option linter.unusedSectionVars false
set_option maxRecDepth 100000
namespace Go.M
open Go Go.Proofs
theorem r22_8 (c d a r : Int) : RS (V302 c d a) [r8 r, M r, T_] 0 [0, 1, 2, 3, 4, 336, 340, 425, 429, 431] [340, 431] (V303 c d a) [flt 8 r T_, fc r, fr a r] := by unfold RS; kernel_rfl
theorem r22_9 (c d a r : Int) : RS (V303 c d a) [r8 r, M r, T_] 0 [0, 1, 2, 3, 4, 5, 611, 671, 675, 677] [611, 677] (V304 c d a) [flt 9 r T_, fc r, fr a r] := by unfold RS; kernel_rfl
theorem r22_10 (c d a r : Int) : RS (V304 c d a) [r8 r, M r, T_] 0 [0, 1, 2, 3, 4, 5, 611, 671, 675, 677] [611, 677] (V305 c d a) [flt 10 r T_, fc r, fr a r] := by unfold RS; kernel_rfl
theorem r22_11 (c d a r : Int) : RS (V305 c d a) [r8 r, M r, T_] 0 [0, 1, 2, 3, 4, 5, 611, 671, 675, 677] [611, 677] (V306 c d a) [flt 11 r T_, fc r, fr a r] := by unfold RS; kernel_rfl
theorem r22_12 (c d a r : Int) : RS (V306 c d a) [r8 r, M r, T_] 0 [0, 1, 2, 3, 4, 5, 611, 671, 675, 677] [611, 677] (V307 c d a) [flt 12 r T_, fc r, fr a r] := by unfold RS; kernel_rfl
theorem r22_13 (c d a r : Int) : RS (V307 c d a) [r8 r, M r, T_] 0 [0, 1, 2, 3, 4, 5, 611, 671, 675, 677] [611, 677] (V308 c d a) [flt 13 r T_, fc r, fr a r] := by unfold RS; kernel_rfl
theorem r22_14 (c d a r : Int) : RS (V308 c d a) [r8 r, M r, T_] 0 [0, 1, 2, 3, 4, 5, 611, 671, 675, 677] [611, 677] (V309 c d a) [flt 14 r T_, fc r, fr a r] := by unfold RS; kernel_rfl
end Go.M
