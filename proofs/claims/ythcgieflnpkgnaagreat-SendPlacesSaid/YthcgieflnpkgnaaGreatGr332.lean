/-
  Rounds 9 to 10 of the loop of SendPlaces, run by the machine (4 live shards).
  The numbers are those of bytes.
-/
import Derived.Test.YthcgieflnpkgnaaGreatAw12
import Derived.Test.YthcgieflnpkgnaaGreatSt3
import Derived.KernelRfl
set_option linter.unusedVariables false
set_option maxRecDepth 100000
namespace Go.M
open Go Go.Proofs
theorem g3_3_r8 (c a r m : Int) (s : ByteArray) : holdsR (segR cx3 (sB (sB (sR (sL (sR (sR (sR (sR (sR (sR fun3.sc)))))))))) 1 (V105 c a r s) (T_ :: pr3 m 134 (F_ :: pr3 m 0 [])) 0 [0, 1, 2, 3, 4, 290, 294, 467, 471, 473] [294, 473] (V106 c a r s)) = allP (((V106 c a r s).fr = (V106 c a r s).fr) :: ((V106 c a r s).bl = (V106 c a r s).bl) :: (fp3 s m 0 (fn s :: fp3 s m 134 [flt 8 r T_]))) := by kernel_rfl
theorem g3_3_r9 (c a r m : Int) (s : ByteArray) : holdsR (segR cx3 (sB (sB (sR (sL (sR (sR (sR (sR (sR (sR fun3.sc)))))))))) 1 (V106 c a r s) (T_ :: pr3 m 153 (F_ :: pr3 m 0 [])) 0 [0, 1, 2, 3, 4, 316, 320, 515, 519, 521] [320, 521] (V107 c a r s)) = allP (((V107 c a r s).fr = (V107 c a r s).fr) :: ((V107 c a r s).bl = (V107 c a r s).bl) :: (fp3 s m 0 (fn s :: fp3 s m 153 [flt 9 r T_]))) := by kernel_rfl
end Go.M
