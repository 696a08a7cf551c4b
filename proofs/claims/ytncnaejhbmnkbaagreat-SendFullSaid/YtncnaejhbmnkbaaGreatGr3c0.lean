/-
  Rounds 1 to 8 of the loop of SendFull, run by the machine.
  The numbers are those of bytes.
-/
import Derived.Test.YtncnaejhbmnkbaaGreatAw7
import Derived.Test.YtncnaejhbmnkbaaGreatSt3
import Derived.KernelRfl
set_option linter.unusedVariables false
set_option linter.unusedSectionVars false
set_option maxRecDepth 100000
namespace Go.M
open Go Go.Proofs
theorem r02_0 (c d a r : Int) : RS (V78 c d a) [r8 r, M r, T_] 0 [0, 1, 3, 4, 5, 120, 124, 165, 169, 171] [124, 171] (V79 c d a) [flt 0 r T_, fc r, fr a r] := by unfold RS; kernel_rfl
theorem r02_1 (c d a r : Int) : RS (V79 c d a) [r8 r, M r, T_] 0 [0, 1, 2, 3, 4, 148, 152, 215, 219, 221] [152, 221] (V80 c d a) [flt 1 r T_, fc r, fr a r] := by unfold RS; kernel_rfl
theorem r02_2 (c d a r : Int) : RS (V80 c d a) [r8 r, M r, T_] 0 [0, 1, 2, 3, 4, 174, 178, 263, 267, 269] [178, 269] (V81 c d a) [flt 2 r T_, fc r, fr a r] := by unfold RS; kernel_rfl
theorem r02_3 (c d a r : Int) : RS (V81 c d a) [r8 r, M r, T_] 0 [0, 1, 2, 3, 4, 5, 293, 353, 357, 359] [293, 359] (V82 c d a) [flt 3 r T_, fc r, fr a r] := by unfold RS; kernel_rfl
theorem r02_4 (c d a r : Int) : RS (V82 c d a) [r8 r, M r, T_] 0 [0, 1, 2, 3, 4, 5, 293, 353, 357, 359] [293, 359] (V83 c d a) [flt 4 r T_, fc r, fr a r] := by unfold RS; kernel_rfl
theorem r02_5 (c d a r : Int) : RS (V83 c d a) [r8 r, M r, T_] 0 [0, 1, 2, 3, 4, 5, 293, 353, 357, 359] [293, 359] (V84 c d a) [flt 5 r T_, fc r, fr a r] := by unfold RS; kernel_rfl
theorem r02_6 (c d a r : Int) : RS (V84 c d a) [r8 r, M r, T_] 0 [0, 1, 2, 3, 4, 5, 293, 353, 357, 359] [293, 359] (V85 c d a) [flt 6 r T_, fc r, fr a r] := by unfold RS; kernel_rfl
theorem r02_7 (c d a r : Int) : RS (V85 c d a) [r8 r, M r, T_] 0 [0, 1, 2, 3, 4, 5, 293, 353, 357, 359] [293, 359] (V86 c d a) [flt 7 r T_, fc r, fr a r] := by unfold RS; kernel_rfl
end Go.M
