/-
  Rounds 50 to 69 of the loop of MachineFull, run by the machine.
  The numbers are those of bytes.
-/
import Derived.Test.YthcgieflnpkgnaaGreatAw25
import Derived.Test.YthcgieflnpkgnaaGreatSt6
import Derived.KernelRfl
set_option linter.unusedVariables false
set_option maxRecDepth 100000
namespace Go.M
open Go Go.Proofs
theorem g6_5 (a r : Int) : holdsR (segR cx6 (sB (sB (sR (sL (sR (sR (sR fun6.sc))))))) 20 (S5 a) (an6 r 20) 0 [0, 1, 2, 3, 4, 5, 6, 7, 8, 9, 10, 11, 12, 13, 14, 15, 16, 17, 18, 19, 20, 21, 22, 23, 24, 25, 26, 27, 28, 29, 30, 31, 32, 33, 34, 35, 36, 37, 38, 39, 40, 41, 42, 43, 44, 45, 46, 47, 48, 49, 50, 51, 52, 53, 54, 107, 161, 215, 269, 323, 377, 431, 485, 539, 593, 647, 701, 755, 809, 863, 917, 971, 1025, 1079, 1133, 1135, 1136] [] (S6 a)) = allP (((S6 a).fr = (S6 a).fr) :: ((S6 a).bl = (S6 a).bl) :: (fs6 a r 50 20 [])) := by kernel_rfl
end Go.M
