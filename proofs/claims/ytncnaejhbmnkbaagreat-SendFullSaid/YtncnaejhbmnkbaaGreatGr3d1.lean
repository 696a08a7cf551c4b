/-
  Rounds 9 to 15 of the loop of SendFull, run by the machine.
  The numbers are those of bytes.
-/
import Derived.Test.YtncnaejhbmnkbaaGreatAw7
import Derived.Test.YtncnaejhbmnkbaaGreatSt3
import Derived.KernelRfl
set_option linter.unusedVariables false
set_option linter.unusedSectionVars false
set_option maxRecDepth 100000
namespace Go.M
open Go Go.Proofs
theorem r10_8 (c d a r : Int) : RS (V122 c d a) [r8 r, M r, T_] 0 [0, 1, 2, 3, 4, 5, 315, 343, 347, 349] [315, 349] (V123 c d a) [flt 8 r T_, fc r, fr a r] := by unfold RS; kernel_rfl
theorem r10_9 (c d a r : Int) : RS (V123 c d a) [r8 r, M r, T_] 0 [0, 1, 2, 3, 4, 5, 315, 343, 347, 349] [315, 349] (V124 c d a) [flt 9 r T_, fc r, fr a r] := by unfold RS; kernel_rfl
theorem r10_10 (c d a r : Int) : RS (V124 c d a) [r8 r, M r, T_] 0 [0, 1, 2, 3, 4, 5, 315, 343, 347, 349] [315, 349] (V125 c d a) [flt 10 r T_, fc r, fr a r] := by unfold RS; kernel_rfl
theorem r10_11 (c d a r : Int) : RS (V125 c d a) [r8 r, M r, T_] 0 [0, 1, 2, 3, 4, 5, 315, 343, 347, 349] [315, 349] (V126 c d a) [flt 11 r T_, fc r, fr a r] := by unfold RS; kernel_rfl
theorem r10_12 (c d a r : Int) : RS (V126 c d a) [r8 r, M r, T_] 0 [0, 1, 2, 3, 4, 5, 315, 343, 347, 349] [315, 349] (V127 c d a) [flt 12 r T_, fc r, fr a r] := by unfold RS; kernel_rfl
theorem r10_13 (c d a r : Int) : RS (V127 c d a) [r8 r, M r, T_] 0 [0, 1, 2, 3, 4, 5, 315, 343, 347, 349] [315, 349] (V128 c d a) [flt 13 r T_, fc r, fr a r] := by unfold RS; kernel_rfl
theorem r10_14 (c d a r : Int) : RS (V128 c d a) [r8 r, M r, T_] 0 [0, 1, 2, 3, 4, 5, 315, 343, 347, 349] [315, 349] (V129 c d a) [flt 14 r T_, fc r, fr a r] := by unfold RS; kernel_rfl
end Go.M
