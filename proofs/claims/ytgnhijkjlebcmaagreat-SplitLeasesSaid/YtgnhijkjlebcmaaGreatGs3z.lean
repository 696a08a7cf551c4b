/-
  SplitLeases in parts, run by the machine.
  The list's numbers come in as what the oracle says of each draw.
-/
import Derived.Test.YtgnhijkjlebcmaaGreatSt3
import Derived.KernelRfl
set_option linter.unusedVariables false
set_option linter.unusedSectionVars false
set_option maxRecDepth 100000
namespace Go.M
open Go Go.Proofs
theorem g3_0 [Lst] (k : Int) : holdsR (seg cx3 (sL fun3.sc) V3x0 [] 0 [] [] (V3x1 0)) = allP (((V3x1 0).fr = (V3x1 0).fr) :: ((V3x1 0).bl = (V3x1 0).bl) :: []) := by kernel_rfl
theorem g3_1 [Lst] (k : Int) : holdsR (seg cx3 (sL (sR fun3.sc)) (V3x1 0) [⟨1, [], oZ⟩] 0 [0] [] (V3x2 0)) = allP (((V3x2 0).fr = (V3x2 0).fr) :: ((V3x2 0).bl = (V3x2 0).bl) :: ((⟨13, [], lst0⟩ : X) = ⟨13, [], lst0⟩) :: []) := by kernel_rfl
theorem g3_2 [Lst] (k : Int) : holdsR (seg cx3 (sL (sR (sR fun3.sc))) (V3x2 0) [] 0 [0] [] (V3x3 0)) = allP (((V3x3 0).fr = (V3x3 0).fr) :: ((V3x3 0).bl = (V3x3 0).bl) :: []) := by kernel_rfl
theorem g3_3 [Lst] (k : Int) : holdsR (seg cx3 (sL (sR (sR (sR fun3.sc)))) (V3x3 0) [] 0 [0, 2, 8, 10, 15, 20, 22, 24] [] (V3x4 0)) = allP (((V3x4 0).fr = (V3x4 0).fr) :: ((V3x4 0).bl = (V3x4 0).bl) :: []) := by kernel_rfl
end Go.M
