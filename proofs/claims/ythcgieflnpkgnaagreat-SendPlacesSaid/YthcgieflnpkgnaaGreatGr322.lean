/-
  Rounds 9 to 10 of the loop of SendPlaces, run by the machine (3 live shards).
  The numbers are those of bytes.
-/
import Derived.Test.YthcgieflnpkgnaaGreatAw12
import Derived.Test.YthcgieflnpkgnaaGreatSt3
import Derived.KernelRfl
set_option linter.unusedVariables false
set_option maxRecDepth 100000
namespace Go.M
open Go Go.Proofs
theorem g3_2_r8 (c a r m : Int) (s : ByteArray) : holdsR (segR cx3 (sB (sB (sR (sL (sR (sR (sR (sR (sR (sR fun3.sc)))))))))) 1 (V75 c a r s) (T_ :: pr3 m 134 (F_ :: pr3 m 0 [])) 0 [0, 1, 2, 3, 4, 286, 290, 463, 467, 469] [290, 469] (V76 c a r s)) = allP (((V76 c a r s).fr = (V76 c a r s).fr) :: ((V76 c a r s).bl = (V76 c a r s).bl) :: (fp3 s m 0 (fn s :: fp3 s m 134 [flt 8 r T_]))) := by kernel_rfl
theorem g3_2_r9 (c a r m : Int) (s : ByteArray) : holdsR (segR cx3 (sB (sB (sR (sL (sR (sR (sR (sR (sR (sR fun3.sc)))))))))) 1 (V76 c a r s) (T_ :: pr3 m 153 (F_ :: pr3 m 0 [])) 0 [0, 1, 2, 3, 4, 312, 316, 511, 515, 517] [316, 517] (V77 c a r s)) = allP (((V77 c a r s).fr = (V77 c a r s).fr) :: ((V77 c a r s).bl = (V77 c a r s).bl) :: (fp3 s m 0 (fn s :: fp3 s m 153 [flt 9 r T_]))) := by kernel_rfl
end Go.M
