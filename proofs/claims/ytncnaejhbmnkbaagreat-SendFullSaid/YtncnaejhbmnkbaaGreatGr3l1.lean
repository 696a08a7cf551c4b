/-
  Rounds 9 to 15 of the loop of SendFull, run by the machine.
  The numbers are those of bytes.
-/
import Derived.Test.YtncnaejhbmnkbaaGreatAw7
import Derived.Test.YtncnaejhbmnkbaaGreatSt3
import Derived.KernelRfl
set_option linter.unusedVariables false
set_option linter.unusedSectionVars false
set_option maxRecDepth 100000
namespace Go.M
open Go Go.Proofs
theorem r32_8 (c d a r : Int) : RS (V410 c d a) [r8 r, M r, T_] 0 [0, 1, 2, 3, 4, 160, 164, 227, 231, 233] [164, 233] (V411 c d a) [flt 8 r T_, fc r, fr a r] := by unfold RS; kernel_rfl
theorem r32_9 (c d a r : Int) : RS (V411 c d a) [r8 r, M r, T_] 0 [0, 1, 2, 3, 5, 470, 474, 537, 541, 543] [474, 543] (V412 c d a) [flt 9 r T_, fc r, fr a r] := by unfold RS; kernel_rfl
theorem r32_10 (c d a r : Int) : RS (V412 c d a) [r8 r, M r, T_] 0 [0, 1, 2, 3, 4, 496, 500, 585, 589, 591] [500, 591] (V413 c d a) [flt 10 r T_, fc r, fr a r] := by unfold RS; kernel_rfl
theorem r32_11 (c d a r : Int) : RS (V413 c d a) [r8 r, M r, T_] 0 [0, 1, 2, 3, 5, 651, 655, 740, 744, 746] [655, 746] (V414 c d a) [flt 11 r T_, fc r, fr a r] := by unfold RS; kernel_rfl
theorem r32_12 (c d a r : Int) : RS (V414 c d a) [r8 r, M r, T_] 0 [0, 1, 2, 3, 4, 5, 773, 833, 837, 839] [773, 839] (V415 c d a) [flt 12 r T_, fc r, fr a r] := by unfold RS; kernel_rfl
theorem r32_13 (c d a r : Int) : RS (V415 c d a) [r8 r, M r, T_] 0 [0, 1, 2, 3, 4, 5, 773, 833, 837, 839] [773, 839] (V416 c d a) [flt 13 r T_, fc r, fr a r] := by unfold RS; kernel_rfl
theorem r32_14 (c d a r : Int) : RS (V416 c d a) [r8 r, M r, T_] 0 [0, 1, 2, 3, 4, 5, 773, 833, 837, 839] [773, 839] (V417 c d a) [flt 14 r T_, fc r, fr a r] := by unfold RS; kernel_rfl
end Go.M
