/-
  Rounds 1 to 8 of the loop of SendFull, run by the machine.
  The numbers are those of bytes.
-/
import Derived.Test.YtncnaejhbmnkbaaGreatAw7
import Derived.Test.YtncnaejhbmnkbaaGreatSt3
import Derived.KernelRfl
set_option linter.unusedVariables false
set_option linter.unusedSectionVars false
set_option maxRecDepth 100000
namespace Go.M
open Go Go.Proofs
theorem r21_0 (c d a r : Int) : RS (V258 c d a) [r8 r, M r, T_] 0 [0, 1, 2, 3, 5, 128, 132, 173, 177, 179] [132, 179] (V259 c d a) [flt 0 r T_, fc r, fr a r] := by unfold RS; kernel_rfl
theorem r21_1 (c d a r : Int) : RS (V259 c d a) [r8 r, M r, T_] 0 [0, 1, 2, 3, 4, 156, 160, 223, 227, 229] [160, 229] (V260 c d a) [flt 1 r T_, fc r, fr a r] := by unfold RS; kernel_rfl
theorem r21_2 (c d a r : Int) : RS (V260 c d a) [r8 r, M r, T_] 0 [0, 1, 3, 4, 5, 256, 260, 301, 305, 307] [260, 307] (V261 c d a) [flt 2 r T_, fc r, fr a r] := by unfold RS; kernel_rfl
theorem r21_3 (c d a r : Int) : RS (V261 c d a) [r8 r, M r, T_] 0 [0, 1, 3, 4, 5, 130, 134, 175, 179, 181] [134, 181] (V262 c d a) [flt 3 r T_, fc r, fr a r] := by unfold RS; kernel_rfl
theorem r21_4 (c d a r : Int) : RS (V262 c d a) [r8 r, M r, T_] 0 [0, 1, 2, 3, 5, 282, 286, 349, 353, 355] [286, 355] (V263 c d a) [flt 4 r T_, fc r, fr a r] := by unfold RS; kernel_rfl
theorem r21_5 (c d a r : Int) : RS (V263 c d a) [r8 r, M r, T_] 0 [0, 1, 2, 3, 5, 408, 412, 475, 479, 481] [412, 481] (V264 c d a) [flt 5 r T_, fc r, fr a r] := by unfold RS; kernel_rfl
theorem r21_6 (c d a r : Int) : RS (V264 c d a) [r8 r, M r, T_] 0 [0, 1, 2, 3, 4, 5, 515, 559, 563, 565] [515, 565] (V265 c d a) [flt 6 r T_, fc r, fr a r] := by unfold RS; kernel_rfl
theorem r21_7 (c d a r : Int) : RS (V265 c d a) [r8 r, M r, T_] 0 [0, 1, 2, 3, 4, 5, 515, 559, 563, 565] [515, 565] (V266 c d a) [flt 7 r T_, fc r, fr a r] := by unfold RS; kernel_rfl
end Go.M
