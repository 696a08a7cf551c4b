/-
  Rounds 1 to 49 of the loop of MachineFull, run by the machine.
  The numbers are those of bytes.
-/
import Derived.Test.YthcgieflnpkgnaaGreatAw25
import Derived.Test.YthcgieflnpkgnaaGreatSt6
import Derived.KernelRfl
set_option linter.unusedVariables false
set_option maxRecDepth 100000
namespace Go.M
open Go Go.Proofs
theorem g6_4 (a r : Int) : holdsR (segR cx6 (sB (sB (sR (sL (sR (sR (sR fun6.sc))))))) 49 (S4 a) (an6 r 49) 0 [0, 1, 2, 3, 4, 5, 56, 110, 164, 218, 272, 326, 380, 434, 488, 542, 596, 650, 704, 758, 812, 866, 920, 974, 1028, 1082, 1136, 1190, 1244, 1298, 1352, 1406, 1460, 1514, 1568, 1622, 1676, 1730, 1784, 1838, 1892, 1946, 2000, 2054, 2108, 2162, 2216, 2270, 2324, 2378, 2432, 2486, 2540, 2594, 2648, 2650, 2651] [] (S5 a)) = allP (((S5 a).fr = (S5 a).fr) :: ((S5 a).bl = (S5 a).bl) :: (fs6 a r 1 49 [])) := by kernel_rfl
end Go.M
