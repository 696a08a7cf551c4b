/-
  Rounds 9 to 15 of the loop of SendFull, run by the machine.
  The numbers are those of bytes.
-/
import Derived.Test.YtncnaejhbmnkbaaGreatAw7
import Derived.Test.YtncnaejhbmnkbaaGreatSt3
import Derived.KernelRfl
set_option linter.unusedVariables false
set_option linter.unusedSectionVars false
set_option maxRecDepth 100000
namespace Go.M
open Go Go.Proofs
theorem r31_8 (c d a r : Int) : RS (V374 c d a) [r8 r, M r, T_] 0 [0, 1, 2, 3, 4, 5, 649, 693, 697, 699] [649, 699] (V375 c d a) [flt 8 r T_, fc r, fr a r] := by unfold RS; kernel_rfl
theorem r31_9 (c d a r : Int) : RS (V375 c d a) [r8 r, M r, T_] 0 [0, 1, 2, 3, 4, 5, 649, 693, 697, 699] [649, 699] (V376 c d a) [flt 9 r T_, fc r, fr a r] := by unfold RS; kernel_rfl
theorem r31_10 (c d a r : Int) : RS (V376 c d a) [r8 r, M r, T_] 0 [0, 1, 2, 3, 4, 5, 649, 693, 697, 699] [649, 699] (V377 c d a) [flt 10 r T_, fc r, fr a r] := by unfold RS; kernel_rfl
theorem r31_11 (c d a r : Int) : RS (V377 c d a) [r8 r, M r, T_] 0 [0, 1, 2, 3, 4, 5, 649, 693, 697, 699] [649, 699] (V378 c d a) [flt 11 r T_, fc r, fr a r] := by unfold RS; kernel_rfl
theorem r31_12 (c d a r : Int) : RS (V378 c d a) [r8 r, M r, T_] 0 [0, 1, 2, 3, 4, 5, 649, 693, 697, 699] [649, 699] (V379 c d a) [flt 12 r T_, fc r, fr a r] := by unfold RS; kernel_rfl
theorem r31_13 (c d a r : Int) : RS (V379 c d a) [r8 r, M r, T_] 0 [0, 1, 2, 3, 4, 5, 649, 693, 697, 699] [649, 699] (V380 c d a) [flt 13 r T_, fc r, fr a r] := by unfold RS; kernel_rfl
theorem r31_14 (c d a r : Int) : RS (V380 c d a) [r8 r, M r, T_] 0 [0, 1, 2, 3, 4, 5, 649, 693, 697, 699] [649, 699] (V381 c d a) [flt 14 r T_, fc r, fr a r] := by unfold RS; kernel_rfl
end Go.M
