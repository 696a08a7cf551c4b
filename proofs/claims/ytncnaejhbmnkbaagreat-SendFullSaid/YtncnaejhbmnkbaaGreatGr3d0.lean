/-
  Rounds 1 to 8 of the loop of SendFull, run by the machine.
  The numbers are those of bytes.
-/
import Derived.Test.YtncnaejhbmnkbaaGreatAw7
import Derived.Test.YtncnaejhbmnkbaaGreatSt3
import Derived.KernelRfl
set_option linter.unusedVariables false
set_option linter.unusedSectionVars false
set_option maxRecDepth 100000
namespace Go.M
open Go Go.Proofs
theorem r10_0 (c d a r : Int) : RS (V114 c d a) [r8 r, M r, T_] 0 [0, 1, 2, 4, 5, 124, 128, 169, 173, 175] [128, 175] (V115 c d a) [flt 0 r T_, fc r, fr a r] := by unfold RS; kernel_rfl
theorem r10_1 (c d a r : Int) : RS (V115 c d a) [r8 r, M r, T_] 0 [0, 1, 3, 4, 5, 223, 227, 268, 272, 274] [227, 274] (V116 c d a) [flt 1 r T_, fc r, fr a r] := by unfold RS; kernel_rfl
theorem r10_2 (c d a r : Int) : RS (V116 c d a) [r8 r, M r, T_] 0 [0, 1, 2, 3, 4, 5, 315, 343, 347, 349] [315, 349] (V117 c d a) [flt 2 r T_, fc r, fr a r] := by unfold RS; kernel_rfl
theorem r10_3 (c d a r : Int) : RS (V117 c d a) [r8 r, M r, T_] 0 [0, 1, 2, 3, 4, 5, 315, 343, 347, 349] [315, 349] (V118 c d a) [flt 3 r T_, fc r, fr a r] := by unfold RS; kernel_rfl
theorem r10_4 (c d a r : Int) : RS (V118 c d a) [r8 r, M r, T_] 0 [0, 1, 2, 3, 4, 5, 315, 343, 347, 349] [315, 349] (V119 c d a) [flt 4 r T_, fc r, fr a r] := by unfold RS; kernel_rfl
theorem r10_5 (c d a r : Int) : RS (V119 c d a) [r8 r, M r, T_] 0 [0, 1, 2, 3, 4, 5, 315, 343, 347, 349] [315, 349] (V120 c d a) [flt 5 r T_, fc r, fr a r] := by unfold RS; kernel_rfl
theorem r10_6 (c d a r : Int) : RS (V120 c d a) [r8 r, M r, T_] 0 [0, 1, 2, 3, 4, 5, 315, 343, 347, 349] [315, 349] (V121 c d a) [flt 6 r T_, fc r, fr a r] := by unfold RS; kernel_rfl
theorem r10_7 (c d a r : Int) : RS (V121 c d a) [r8 r, M r, T_] 0 [0, 1, 2, 3, 4, 5, 315, 343, 347, 349] [315, 349] (V122 c d a) [flt 7 r T_, fc r, fr a r] := by unfold RS; kernel_rfl
end Go.M
