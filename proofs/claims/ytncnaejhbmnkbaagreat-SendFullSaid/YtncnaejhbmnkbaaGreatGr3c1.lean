/-
  Rounds 9 to 15 of the loop of SendFull, run by the machine.
  The numbers are those of bytes.
-/
import Derived.Test.YtncnaejhbmnkbaaGreatAw7
import Derived.Test.YtncnaejhbmnkbaaGreatSt3
import Derived.KernelRfl
set_option linter.unusedVariables false
set_option linter.unusedSectionVars false
set_option maxRecDepth 100000
namespace Go.M
open Go Go.Proofs
theorem r02_8 (c d a r : Int) : RS (V86 c d a) [r8 r, M r, T_] 0 [0, 1, 2, 3, 4, 5, 293, 353, 357, 359] [293, 359] (V87 c d a) [flt 8 r T_, fc r, fr a r] := by unfold RS; kernel_rfl
theorem r02_9 (c d a r : Int) : RS (V87 c d a) [r8 r, M r, T_] 0 [0, 1, 2, 3, 4, 5, 293, 353, 357, 359] [293, 359] (V88 c d a) [flt 9 r T_, fc r, fr a r] := by unfold RS; kernel_rfl
theorem r02_10 (c d a r : Int) : RS (V88 c d a) [r8 r, M r, T_] 0 [0, 1, 2, 3, 4, 5, 293, 353, 357, 359] [293, 359] (V89 c d a) [flt 10 r T_, fc r, fr a r] := by unfold RS; kernel_rfl
theorem r02_11 (c d a r : Int) : RS (V89 c d a) [r8 r, M r, T_] 0 [0, 1, 2, 3, 4, 5, 293, 353, 357, 359] [293, 359] (V90 c d a) [flt 11 r T_, fc r, fr a r] := by unfold RS; kernel_rfl
theorem r02_12 (c d a r : Int) : RS (V90 c d a) [r8 r, M r, T_] 0 [0, 1, 2, 3, 4, 5, 293, 353, 357, 359] [293, 359] (V91 c d a) [flt 12 r T_, fc r, fr a r] := by unfold RS; kernel_rfl
theorem r02_13 (c d a r : Int) : RS (V91 c d a) [r8 r, M r, T_] 0 [0, 1, 2, 3, 4, 5, 293, 353, 357, 359] [293, 359] (V92 c d a) [flt 13 r T_, fc r, fr a r] := by unfold RS; kernel_rfl
theorem r02_14 (c d a r : Int) : RS (V92 c d a) [r8 r, M r, T_] 0 [0, 1, 2, 3, 4, 5, 293, 353, 357, 359] [293, 359] (V93 c d a) [flt 14 r T_, fc r, fr a r] := by unfold RS; kernel_rfl
end Go.M
