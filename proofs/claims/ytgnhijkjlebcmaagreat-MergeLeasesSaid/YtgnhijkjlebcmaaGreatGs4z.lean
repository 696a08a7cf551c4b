/-
  MergeLeases in parts, run by the machine.
  The list's numbers come in as what the oracle says of each draw.
-/
import Derived.Test.YtgnhijkjlebcmaaGreatSt4
import Derived.KernelRfl
set_option linter.unusedVariables false
set_option linter.unusedSectionVars false
set_option maxRecDepth 100000
namespace Go.M
open Go Go.Proofs
theorem g4_0 [Lst] (k : Int) : holdsR (seg cx4 (sL fun4.sc) V4x0 [] 0 [] [] (V4x1 0)) = allP (((V4x1 0).fr = (V4x1 0).fr) :: ((V4x1 0).bl = (V4x1 0).bl) :: []) := by kernel_rfl
theorem g4_1 [Lst] (k : Int) : holdsR (seg cx4 (sL (sR fun4.sc)) (V4x1 0) [⟨1, [], oZ⟩] 0 [0] [] (V4x2 0)) = allP (((V4x2 0).fr = (V4x2 0).fr) :: ((V4x2 0).bl = (V4x2 0).bl) :: ((⟨13, [], lst0⟩ : X) = ⟨13, [], lst0⟩) :: []) := by kernel_rfl
theorem g4_2 [Lst] (k : Int) : holdsR (seg cx4 (sL (sR (sR fun4.sc))) (V4x2 0) [] 0 [0] [] (V4x3 0)) = allP (((V4x3 0).fr = (V4x3 0).fr) :: ((V4x3 0).bl = (V4x3 0).bl) :: []) := by kernel_rfl
theorem g4_3 [Lst] (k : Int) : holdsR (seg cx4 (sL (sR (sR (sR fun4.sc)))) (V4x3 0) [] 0 [0, 6, 12, 14, 20, 26, 28, 30] [] (V4x4 0)) = allP (((V4x4 0).fr = (V4x4 0).fr) :: ((V4x4 0).bl = (V4x4 0).bl) :: []) := by kernel_rfl
end Go.M
