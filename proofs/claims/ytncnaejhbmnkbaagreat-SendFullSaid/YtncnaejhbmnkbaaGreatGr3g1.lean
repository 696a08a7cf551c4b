/-
  Rounds 9 to 15 of the loop of SendFull, run by the machine.
  The numbers are those of bytes.
-/
import Derived.Test.YtncnaejhbmnkbaaGreatAw7
import Derived.Test.YtncnaejhbmnkbaaGreatSt3
import Derived.KernelRfl
set_option linter.unusedVariables false
set_option linter.unusedSectionVars false
set_option maxRecDepth 100000
namespace Go.M
open Go Go.Proofs
theorem r20_8 (c d a r : Int) : RS (V230 c d a) [r8 r, M r, T_] 0 [0, 1, 2, 3, 4, 5, 419, 447, 451, 453] [419, 453] (V231 c d a) [flt 8 r T_, fc r, fr a r] := by unfold RS; kernel_rfl
theorem r20_9 (c d a r : Int) : RS (V231 c d a) [r8 r, M r, T_] 0 [0, 1, 2, 3, 4, 5, 419, 447, 451, 453] [419, 453] (V232 c d a) [flt 9 r T_, fc r, fr a r] := by unfold RS; kernel_rfl
theorem r20_10 (c d a r : Int) : RS (V232 c d a) [r8 r, M r, T_] 0 [0, 1, 2, 3, 4, 5, 419, 447, 451, 453] [419, 453] (V233 c d a) [flt 10 r T_, fc r, fr a r] := by unfold RS; kernel_rfl
theorem r20_11 (c d a r : Int) : RS (V233 c d a) [r8 r, M r, T_] 0 [0, 1, 2, 3, 4, 5, 419, 447, 451, 453] [419, 453] (V234 c d a) [flt 11 r T_, fc r, fr a r] := by unfold RS; kernel_rfl
theorem r20_12 (c d a r : Int) : RS (V234 c d a) [r8 r, M r, T_] 0 [0, 1, 2, 3, 4, 5, 419, 447, 451, 453] [419, 453] (V235 c d a) [flt 12 r T_, fc r, fr a r] := by unfold RS; kernel_rfl
theorem r20_13 (c d a r : Int) : RS (V235 c d a) [r8 r, M r, T_] 0 [0, 1, 2, 3, 4, 5, 419, 447, 451, 453] [419, 453] (V236 c d a) [flt 13 r T_, fc r, fr a r] := by unfold RS; kernel_rfl
theorem r20_14 (c d a r : Int) : RS (V236 c d a) [r8 r, M r, T_] 0 [0, 1, 2, 3, 4, 5, 419, 447, 451, 453] [419, 453] (V237 c d a) [flt 14 r T_, fc r, fr a r] := by unfold RS; kernel_rfl
end Go.M
