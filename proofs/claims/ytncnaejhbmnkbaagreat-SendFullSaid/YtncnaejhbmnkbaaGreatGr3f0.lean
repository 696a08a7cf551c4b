/-
  Rounds 1 to 8 of the loop of SendFull, run by the machine.
  The numbers are those of bytes.
-/
import Derived.Test.YtncnaejhbmnkbaaGreatAw7
import Derived.Test.YtncnaejhbmnkbaaGreatSt3
import Derived.KernelRfl
set_option linter.unusedVariables false
set_option linter.unusedSectionVars false
set_option maxRecDepth 100000
namespace Go.M
open Go Go.Proofs
theorem r12_0 (c d a r : Int) : RS (V186 c d a) [r8 r, M r, T_] 0 [0, 1, 2, 4, 5, 124, 128, 169, 173, 175] [128, 175] (V187 c d a) [flt 0 r T_, fc r, fr a r] := by unfold RS; kernel_rfl
theorem r12_1 (c d a r : Int) : RS (V187 c d a) [r8 r, M r, T_] 0 [0, 1, 2, 3, 4, 152, 156, 219, 223, 225] [156, 225] (V188 c d a) [flt 1 r T_, fc r, fr a r] := by unfold RS; kernel_rfl
theorem r12_2 (c d a r : Int) : RS (V188 c d a) [r8 r, M r, T_] 0 [0, 1, 2, 3, 4, 178, 182, 267, 271, 273] [182, 273] (V189 c d a) [flt 2 r T_, fc r, fr a r] := by unfold RS; kernel_rfl
theorem r12_3 (c d a r : Int) : RS (V189 c d a) [r8 r, M r, T_] 0 [0, 1, 3, 4, 5, 279, 283, 324, 328, 330] [283, 330] (V190 c d a) [flt 3 r T_, fc r, fr a r] := by unfold RS; kernel_rfl
theorem r12_4 (c d a r : Int) : RS (V190 c d a) [r8 r, M r, T_] 0 [0, 1, 2, 3, 4, 305, 309, 372, 376, 378] [309, 378] (V191 c d a) [flt 4 r T_, fc r, fr a r] := by unfold RS; kernel_rfl
theorem r12_5 (c d a r : Int) : RS (V191 c d a) [r8 r, M r, T_] 0 [0, 1, 2, 3, 4, 331, 335, 420, 424, 426] [335, 426] (V192 c d a) [flt 5 r T_, fc r, fr a r] := by unfold RS; kernel_rfl
theorem r12_6 (c d a r : Int) : RS (V192 c d a) [r8 r, M r, T_] 0 [0, 1, 2, 3, 4, 5, 451, 511, 515, 517] [451, 517] (V193 c d a) [flt 6 r T_, fc r, fr a r] := by unfold RS; kernel_rfl
theorem r12_7 (c d a r : Int) : RS (V193 c d a) [r8 r, M r, T_] 0 [0, 1, 2, 3, 4, 5, 451, 511, 515, 517] [451, 517] (V194 c d a) [flt 7 r T_, fc r, fr a r] := by unfold RS; kernel_rfl
end Go.M
