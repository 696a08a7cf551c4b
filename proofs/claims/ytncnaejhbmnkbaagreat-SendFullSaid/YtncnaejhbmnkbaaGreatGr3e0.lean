/-
  Rounds 1 to 8 of the loop of SendFull, run by the machine.
  The numbers are those of bytes.
-/
import Derived.Test.YtncnaejhbmnkbaaGreatAw7
import Derived.Test.YtncnaejhbmnkbaaGreatSt3
import Derived.KernelRfl
set_option linter.unusedVariables false
set_option linter.unusedSectionVars false
set_option maxRecDepth 100000
namespace Go.M
open Go Go.Proofs
theorem r11_0 (c d a r : Int) : RS (V150 c d a) [r8 r, M r, T_] 0 [0, 1, 2, 4, 5, 124, 128, 169, 173, 175] [128, 175] (V151 c d a) [flt 0 r T_, fc r, fr a r] := by unfold RS; kernel_rfl
theorem r11_1 (c d a r : Int) : RS (V151 c d a) [r8 r, M r, T_] 0 [0, 1, 2, 3, 4, 152, 156, 219, 223, 225] [156, 225] (V152 c d a) [flt 1 r T_, fc r, fr a r] := by unfold RS; kernel_rfl
theorem r11_2 (c d a r : Int) : RS (V152 c d a) [r8 r, M r, T_] 0 [0, 1, 3, 4, 5, 251, 255, 296, 300, 302] [255, 302] (V153 c d a) [flt 2 r T_, fc r, fr a r] := by unfold RS; kernel_rfl
theorem r11_3 (c d a r : Int) : RS (V153 c d a) [r8 r, M r, T_] 0 [0, 1, 2, 3, 4, 277, 281, 344, 348, 350] [281, 350] (V154 c d a) [flt 3 r T_, fc r, fr a r] := by unfold RS; kernel_rfl
theorem r11_4 (c d a r : Int) : RS (V154 c d a) [r8 r, M r, T_] 0 [0, 1, 2, 3, 4, 5, 383, 427, 431, 433] [383, 433] (V155 c d a) [flt 4 r T_, fc r, fr a r] := by unfold RS; kernel_rfl
theorem r11_5 (c d a r : Int) : RS (V155 c d a) [r8 r, M r, T_] 0 [0, 1, 2, 3, 4, 5, 383, 427, 431, 433] [383, 433] (V156 c d a) [flt 5 r T_, fc r, fr a r] := by unfold RS; kernel_rfl
theorem r11_6 (c d a r : Int) : RS (V156 c d a) [r8 r, M r, T_] 0 [0, 1, 2, 3, 4, 5, 383, 427, 431, 433] [383, 433] (V157 c d a) [flt 6 r T_, fc r, fr a r] := by unfold RS; kernel_rfl
theorem r11_7 (c d a r : Int) : RS (V157 c d a) [r8 r, M r, T_] 0 [0, 1, 2, 3, 4, 5, 383, 427, 431, 433] [383, 433] (V158 c d a) [flt 7 r T_, fc r, fr a r] := by unfold RS; kernel_rfl
end Go.M
