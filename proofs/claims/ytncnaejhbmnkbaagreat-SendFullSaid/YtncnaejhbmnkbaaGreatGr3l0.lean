/-
  Rounds 1 to 8 of the loop of SendFull, run by the machine.
  The numbers are those of bytes.
-/
import Derived.Test.YtncnaejhbmnkbaaGreatAw7
import Derived.Test.YtncnaejhbmnkbaaGreatSt3
import Derived.KernelRfl
set_option linter.unusedVariables false
set_option linter.unusedSectionVars false
set_option maxRecDepth 100000
namespace Go.M
open Go Go.Proofs
theorem r32_0 (c d a r : Int) : RS (V402 c d a) [r8 r, M r, T_] 0 [0, 1, 2, 3, 5, 132, 136, 177, 181, 183] [136, 183] (V403 c d a) [flt 0 r T_, fc r, fr a r] := by unfold RS; kernel_rfl
theorem r32_1 (c d a r : Int) : RS (V403 c d a) [r8 r, M r, T_] 0 [0, 1, 2, 3, 4, 160, 164, 227, 231, 233] [164, 233] (V404 c d a) [flt 1 r T_, fc r, fr a r] := by unfold RS; kernel_rfl
theorem r32_2 (c d a r : Int) : RS (V404 c d a) [r8 r, M r, T_] 0 [0, 1, 2, 3, 4, 186, 190, 275, 279, 281] [190, 281] (V405 c d a) [flt 2 r T_, fc r, fr a r] := by unfold RS; kernel_rfl
theorem r32_3 (c d a r : Int) : RS (V405 c d a) [r8 r, M r, T_] 0 [0, 1, 2, 3, 5, 289, 293, 334, 338, 340] [293, 340] (V406 c d a) [flt 3 r T_, fc r, fr a r] := by unfold RS; kernel_rfl
theorem r32_4 (c d a r : Int) : RS (V406 c d a) [r8 r, M r, T_] 0 [0, 1, 2, 3, 4, 315, 319, 382, 386, 388] [319, 388] (V407 c d a) [flt 4 r T_, fc r, fr a r] := by unfold RS; kernel_rfl
theorem r32_5 (c d a r : Int) : RS (V407 c d a) [r8 r, M r, T_] 0 [0, 1, 2, 3, 4, 341, 345, 430, 434, 436] [345, 436] (V408 c d a) [flt 5 r T_, fc r, fr a r] := by unfold RS; kernel_rfl
theorem r32_6 (c d a r : Int) : RS (V408 c d a) [r8 r, M r, T_] 0 [0, 1, 3, 4, 5, 444, 448, 489, 493, 495] [448, 495] (V409 c d a) [flt 6 r T_, fc r, fr a r] := by unfold RS; kernel_rfl
theorem r32_7 (c d a r : Int) : RS (V409 c d a) [r8 r, M r, T_] 0 [0, 1, 3, 4, 5, 134, 138, 179, 183, 185] [138, 185] (V410 c d a) [flt 7 r T_, fc r, fr a r] := by unfold RS; kernel_rfl
end Go.M
