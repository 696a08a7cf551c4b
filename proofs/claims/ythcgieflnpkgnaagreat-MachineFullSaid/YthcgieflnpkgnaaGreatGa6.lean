/-
  MachineFull up to its loop, run by the machine.
  The numbers are those of bytes.
-/
import Derived.Test.YthcgieflnpkgnaaGreatAw25
import Derived.Test.YthcgieflnpkgnaaGreatSt6
import Derived.KernelRfl
set_option linter.unusedVariables false
set_option maxRecDepth 100000
namespace Go.M
open Go Go.Proofs
theorem g6_0 (a r : Int) : holdsR (seg cx6 (sL fun6.sc) ⟨[⟨13, [], .int .u8 a⟩], 0, []⟩ [] 0 [] [] (S1 a)) = allP (((S1 a).fr = (S1 a).fr) :: ((S1 a).bl = (S1 a).bl) :: []) := by kernel_rfl
theorem g6_1 (a r : Int) : holdsR (seg cx6 (sL (sR fun6.sc)) (S1 a) [] 0 [1, 5, 12, 17, 24, 26] [] (S2 a)) = allP (((S2 a).fr = (S2 a).fr) :: ((S2 a).bl = (S2 a).bl) :: []) := by kernel_rfl
theorem g6_2 (a r : Int) : holdsR (seg cx6 (sL (sR (sR fun6.sc))) (S2 a) [] 0 [0, 1, 2, 3, 4, 5] [] (S3 a)) = allP (((S3 a).fr = (S3 a).fr) :: ((S3 a).bl = (S3 a).bl) :: []) := by kernel_rfl
theorem g6_3 (a r : Int) : holdsR (seg cx6 (sL (sL (sR (sR (sR fun6.sc))))) (S3 a) [] 0 [0, 1, 2, 3, 4, 5] [] (S4 a)) = allP (((S4 a).fr = (S4 a).fr) :: ((S4 a).bl = (S4 a).bl) :: []) := by kernel_rfl
end Go.M
