/-
  Rounds 85 to 97 of the loop of MachineFull, run by the machine.
  The numbers are those of bytes.
-/
import Derived.Test.YthcgieflnpkgnaaGreatAw25
import Derived.Test.YthcgieflnpkgnaaGreatSt6
import Derived.KernelRfl
set_option linter.unusedVariables false
set_option maxRecDepth 100000
namespace Go.M
open Go Go.Proofs
theorem g6_7 (a r : Int) : holdsR (segR cx6 (sB (sB (sR (sL (sR (sR (sR fun6.sc))))))) 13 (S7 a) (an6 r 13) 0 [0, 1, 2, 3, 4, 5, 6, 7, 8, 9, 10, 11, 12, 13, 14, 15, 16, 17, 18, 19, 20, 21, 22, 23, 24, 25, 26, 27, 28, 29, 30, 31, 32, 33, 34, 35, 36, 37, 38, 39, 40, 41, 42, 43, 44, 45, 46, 47, 48, 49, 50, 51, 52, 53, 54, 55, 56, 57, 58, 59, 60, 61, 62, 63, 64, 65, 66, 67, 68, 69, 70, 71, 72, 73, 74, 75, 76, 77, 78, 79, 80, 81, 82, 83, 84, 85, 86, 87, 88, 89, 142, 196, 250, 304, 358, 412, 466, 520, 574, 628, 682, 736, 790, 792, 793] [] (S8 a)) = allP (((S8 a).fr = (S8 a).fr) :: ((S8 a).bl = (S8 a).bl) :: (fs6 a r 85 13 [])) := by kernel_rfl
end Go.M
