/-
  Rounds 9 to 15 of the loop of SendFull, run by the machine.
  The numbers are those of bytes.
-/
import Derived.Test.YtncnaejhbmnkbaaGreatAw7
import Derived.Test.YtncnaejhbmnkbaaGreatSt3
import Derived.KernelRfl
set_option linter.unusedVariables false
set_option linter.unusedSectionVars false
set_option maxRecDepth 100000
namespace Go.M
open Go Go.Proofs
theorem r11_8 (c d a r : Int) : RS (V158 c d a) [r8 r, M r, T_] 0 [0, 1, 2, 3, 4, 5, 383, 427, 431, 433] [383, 433] (V159 c d a) [flt 8 r T_, fc r, fr a r] := by unfold RS; kernel_rfl
theorem r11_9 (c d a r : Int) : RS (V159 c d a) [r8 r, M r, T_] 0 [0, 1, 2, 3, 4, 5, 383, 427, 431, 433] [383, 433] (V160 c d a) [flt 9 r T_, fc r, fr a r] := by unfold RS; kernel_rfl
theorem r11_10 (c d a r : Int) : RS (V160 c d a) [r8 r, M r, T_] 0 [0, 1, 2, 3, 4, 5, 383, 427, 431, 433] [383, 433] (V161 c d a) [flt 10 r T_, fc r, fr a r] := by unfold RS; kernel_rfl
theorem r11_11 (c d a r : Int) : RS (V161 c d a) [r8 r, M r, T_] 0 [0, 1, 2, 3, 4, 5, 383, 427, 431, 433] [383, 433] (V162 c d a) [flt 11 r T_, fc r, fr a r] := by unfold RS; kernel_rfl
theorem r11_12 (c d a r : Int) : RS (V162 c d a) [r8 r, M r, T_] 0 [0, 1, 2, 3, 4, 5, 383, 427, 431, 433] [383, 433] (V163 c d a) [flt 12 r T_, fc r, fr a r] := by unfold RS; kernel_rfl
theorem r11_13 (c d a r : Int) : RS (V163 c d a) [r8 r, M r, T_] 0 [0, 1, 2, 3, 4, 5, 383, 427, 431, 433] [383, 433] (V164 c d a) [flt 13 r T_, fc r, fr a r] := by unfold RS; kernel_rfl
theorem r11_14 (c d a r : Int) : RS (V164 c d a) [r8 r, M r, T_] 0 [0, 1, 2, 3, 4, 5, 383, 427, 431, 433] [383, 433] (V165 c d a) [flt 14 r T_, fc r, fr a r] := by unfold RS; kernel_rfl
end Go.M
