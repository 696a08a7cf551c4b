/-
  MergeMoves in parts, run by the machine.
  The list's numbers come in as what the oracle says of each draw.
-/
import Derived.Test.YthhjbngoibmpgaaGreatSt9
import Derived.KernelRfl
set_option linter.unusedVariables false
set_option linter.unusedSectionVars false
set_option maxRecDepth 100000
namespace Go.M
open Go Go.Proofs
theorem g9_0 [Lst] (k : Int) : holdsR (seg cx9 (sL fun9.sc) V9x0 [] 0 [] [] (V9x1 0)) = allP (((V9x1 0).fr = (V9x1 0).fr) :: ((V9x1 0).bl = (V9x1 0).bl) :: []) := by kernel_rfl
theorem g9_1 [Lst] (k : Int) : holdsR (seg cx9 (sL (sR fun9.sc)) (V9x1 0) [⟨1, [], oZ⟩] 0 [0] [] (V9x2 0)) = allP (((V9x2 0).fr = (V9x2 0).fr) :: ((V9x2 0).bl = (V9x2 0).bl) :: ((⟨13, [], lst0⟩ : X) = ⟨13, [], lst0⟩) :: []) := by kernel_rfl
theorem g9_2 [Lst] (k : Int) : holdsR (seg cx9 (sL (sR (sR fun9.sc))) (V9x2 0) [] 0 [0] [] (V9x3 0)) = allP (((V9x3 0).fr = (V9x3 0).fr) :: ((V9x3 0).bl = (V9x3 0).bl) :: []) := by kernel_rfl
end Go.M
