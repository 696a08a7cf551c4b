/-
  Rounds 9 to 15 of the loop of SendFull, run by the machine.
  The numbers are those of bytes.
-/
import Derived.Test.YtncnaejhbmnkbaaGreatAw7
import Derived.Test.YtncnaejhbmnkbaaGreatSt3
import Derived.KernelRfl
set_option linter.unusedVariables false
set_option linter.unusedSectionVars false
set_option maxRecDepth 100000
namespace Go.M
open Go Go.Proofs
theorem r12_8 (c d a r : Int) : RS (V194 c d a) [r8 r, M r, T_] 0 [0, 1, 2, 3, 4, 5, 451, 511, 515, 517] [451, 517] (V195 c d a) [flt 8 r T_, fc r, fr a r] := by unfold RS; kernel_rfl
theorem r12_9 (c d a r : Int) : RS (V195 c d a) [r8 r, M r, T_] 0 [0, 1, 2, 3, 4, 5, 451, 511, 515, 517] [451, 517] (V196 c d a) [flt 9 r T_, fc r, fr a r] := by unfold RS; kernel_rfl
theorem r12_10 (c d a r : Int) : RS (V196 c d a) [r8 r, M r, T_] 0 [0, 1, 2, 3, 4, 5, 451, 511, 515, 517] [451, 517] (V197 c d a) [flt 10 r T_, fc r, fr a r] := by unfold RS; kernel_rfl
theorem r12_11 (c d a r : Int) : RS (V197 c d a) [r8 r, M r, T_] 0 [0, 1, 2, 3, 4, 5, 451, 511, 515, 517] [451, 517] (V198 c d a) [flt 11 r T_, fc r, fr a r] := by unfold RS; kernel_rfl
theorem r12_12 (c d a r : Int) : RS (V198 c d a) [r8 r, M r, T_] 0 [0, 1, 2, 3, 4, 5, 451, 511, 515, 517] [451, 517] (V199 c d a) [flt 12 r T_, fc r, fr a r] := by unfold RS; kernel_rfl
theorem r12_13 (c d a r : Int) : RS (V199 c d a) [r8 r, M r, T_] 0 [0, 1, 2, 3, 4, 5, 451, 511, 515, 517] [451, 517] (V200 c d a) [flt 13 r T_, fc r, fr a r] := by unfold RS; kernel_rfl
theorem r12_14 (c d a r : Int) : RS (V200 c d a) [r8 r, M r, T_] 0 [0, 1, 2, 3, 4, 5, 451, 511, 515, 517] [451, 517] (V201 c d a) [flt 14 r T_, fc r, fr a r] := by unfold RS; kernel_rfl
end Go.M
