/-
  SettleBatch up to its first loop, run by the machine.
  The numbers are those of bytes.
-/
import Derived.Test.YthcgieflnpkgnaaGreatAw17
import Derived.Test.YthcgieflnpkgnaaGreatSt4
import Derived.KernelRfl
set_option linter.unusedVariables false
set_option maxRecDepth 100000
namespace Go.M
open Go Go.Proofs
theorem g4_0 (b c : Int) : holdsR (seg cx4 (sL fun4.sc) ⟨[⟨13, [], .int .u8 b⟩, ⟨13, [], .int .u8 c⟩], 0, []⟩ [] 0 [] [] (U1 b c)) = allP (((U1 b c).fr = (U1 b c).fr) :: ((U1 b c).bl = (U1 b c).bl) :: []) := by kernel_rfl
theorem g4_1 (b c : Int) : holdsR (seg cx4 (sL (sR fun4.sc)) (U1 b c) [] 0 [] [] (U2 b c)) = allP (((U2 b c).fr = (U2 b c).fr) :: ((U2 b c).bl = (U2 b c).bl) :: []) := by kernel_rfl
theorem g4_2 (b c : Int) : holdsR (seg cx4 (sL (sR (sR fun4.sc))) (U2 b c) [] 0 [3, 7, 9, 20, 125, 174, 177, 331, 403, 406, 594, 688, 691, 913, 1029, 1032, 1288, 1426, 1429, 1719, 1879, 2302, 2305, 2308, 2324, 2673, 2712, 2751, 2790, 2829, 2868, 2870, 2872, 2874, 3117, 3124, 3126, 3127, 3128, 3129] [] (U3 b c)) = allP (((U3 b c).fr = (U3 b c).fr) :: ((U3 b c).bl = (U3 b c).bl) :: []) := by kernel_rfl
theorem g4_3 (b c : Int) : holdsR (seg cx4 (sL (sR (sR (sR fun4.sc)))) (U3 b c) [] 0 [0, 1, 2, 3, 4, 5, 6, 7, 8, 9, 10, 11, 12, 13, 14, 15, 16, 17, 18, 19, 20, 21, 22, 23, 24, 25, 26, 27, 28, 29, 30, 31, 32, 33, 34, 35, 36, 37, 38, 39] [] (U4 b c)) = allP (((U4 b c).fr = (U4 b c).fr) :: ((U4 b c).bl = (U4 b c).bl) :: []) := by kernel_rfl
theorem g4_k0 (b c : Int) : holdsR (seg cx4 (sL (sR (sR (sR (sR fun4.sc))))) (U4 b c) [⟨4, [], oZ⟩] 0 [0, 1, 2, 3, 4, 5, 6, 7, 8, 9, 10, 11, 12, 13, 14, 15, 16, 17, 18, 19, 20, 21, 22, 23, 24, 25, 26, 27, 28, 29, 30, 31, 32, 33, 34, 35, 36, 37, 38, 39] [] (U5 b c)) = allP (((U5 b c).fr = (U5 b c).fr) :: ((U5 b c).bl = (U5 b c).bl) :: [OpFact .rem ⟨13, [], .int .u8 c⟩ (z 1540) ⟨4, [], oZ⟩]) := by kernel_rfl
theorem g4_k1 (b c : Int) : holdsR (seg cx4 (sL (sR (sR (sR (sR fun4.sc))))) (U4 b c) [⟨516, [], oZ⟩] 0 [0, 1, 2, 3, 4, 5, 6, 7, 8, 9, 10, 11, 12, 13, 14, 15, 16, 17, 18, 19, 20, 21, 22, 23, 24, 25, 26, 27, 28, 29, 30, 31, 32, 33, 34, 35, 36, 37, 38, 39] [] (U6 b c)) = allP (((U6 b c).fr = (U6 b c).fr) :: ((U6 b c).bl = (U6 b c).bl) :: [OpFact .rem ⟨13, [], .int .u8 c⟩ (z 1540) ⟨516, [], oZ⟩]) := by kernel_rfl
theorem g4_k2 (b c : Int) : holdsR (seg cx4 (sL (sR (sR (sR (sR fun4.sc))))) (U4 b c) [⟨1028, [], oZ⟩] 0 [0, 1, 2, 3, 4, 5, 6, 7, 8, 9, 10, 11, 12, 13, 14, 15, 16, 17, 18, 19, 20, 21, 22, 23, 24, 25, 26, 27, 28, 29, 30, 31, 32, 33, 34, 35, 36, 37, 38, 39] [] (U7 b c)) = allP (((U7 b c).fr = (U7 b c).fr) :: ((U7 b c).bl = (U7 b c).bl) :: [OpFact .rem ⟨13, [], .int .u8 c⟩ (z 1540) ⟨1028, [], oZ⟩]) := by kernel_rfl
end Go.M
