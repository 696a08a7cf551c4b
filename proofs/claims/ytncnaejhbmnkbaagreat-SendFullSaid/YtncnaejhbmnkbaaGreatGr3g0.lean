/-
  Rounds 1 to 8 of the loop of SendFull, run by the machine.
  The numbers are those of bytes.
-/
import Derived.Test.YtncnaejhbmnkbaaGreatAw7
import Derived.Test.YtncnaejhbmnkbaaGreatSt3
import Derived.KernelRfl
set_option linter.unusedVariables false
set_option linter.unusedSectionVars false
set_option maxRecDepth 100000
namespace Go.M
open Go Go.Proofs
theorem r20_0 (c d a r : Int) : RS (V222 c d a) [r8 r, M r, T_] 0 [0, 1, 2, 3, 5, 128, 132, 173, 177, 179] [132, 179] (V223 c d a) [flt 0 r T_, fc r, fr a r] := by unfold RS; kernel_rfl
theorem r20_1 (c d a r : Int) : RS (V223 c d a) [r8 r, M r, T_] 0 [0, 1, 3, 4, 5, 228, 232, 273, 277, 279] [232, 279] (V224 c d a) [flt 1 r T_, fc r, fr a r] := by unfold RS; kernel_rfl
theorem r20_2 (c d a r : Int) : RS (V224 c d a) [r8 r, M r, T_] 0 [0, 1, 3, 4, 5, 326, 330, 371, 375, 377] [330, 377] (V225 c d a) [flt 2 r T_, fc r, fr a r] := by unfold RS; kernel_rfl
theorem r20_3 (c d a r : Int) : RS (V225 c d a) [r8 r, M r, T_] 0 [0, 1, 2, 3, 4, 5, 419, 447, 451, 453] [419, 453] (V226 c d a) [flt 3 r T_, fc r, fr a r] := by unfold RS; kernel_rfl
theorem r20_4 (c d a r : Int) : RS (V226 c d a) [r8 r, M r, T_] 0 [0, 1, 2, 3, 4, 5, 419, 447, 451, 453] [419, 453] (V227 c d a) [flt 4 r T_, fc r, fr a r] := by unfold RS; kernel_rfl
theorem r20_5 (c d a r : Int) : RS (V227 c d a) [r8 r, M r, T_] 0 [0, 1, 2, 3, 4, 5, 419, 447, 451, 453] [419, 453] (V228 c d a) [flt 5 r T_, fc r, fr a r] := by unfold RS; kernel_rfl
theorem r20_6 (c d a r : Int) : RS (V228 c d a) [r8 r, M r, T_] 0 [0, 1, 2, 3, 4, 5, 419, 447, 451, 453] [419, 453] (V229 c d a) [flt 6 r T_, fc r, fr a r] := by unfold RS; kernel_rfl
theorem r20_7 (c d a r : Int) : RS (V229 c d a) [r8 r, M r, T_] 0 [0, 1, 2, 3, 4, 5, 419, 447, 451, 453] [419, 453] (V230 c d a) [flt 7 r T_, fc r, fr a r] := by unfold RS; kernel_rfl
end Go.M
