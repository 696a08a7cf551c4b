/-
  Rounds 6 to 8 of the loop of SendPlaces, run by the machine (4 live shards).
  The numbers are those of bytes.
-/
import Derived.Test.YthcgieflnpkgnaaGreatAw12
import Derived.Test.YthcgieflnpkgnaaGreatSt3
import Derived.KernelRfl
set_option linter.unusedVariables false
set_option maxRecDepth 100000
namespace Go.M
open Go Go.Proofs
theorem g3_3_r5 (c a r m : Int) (s : ByteArray) : holdsR (segR cx3 (sB (sB (sR (sL (sR (sR (sR (sR (sR (sR fun3.sc)))))))))) 1 (V102 c a r s) (T_ :: pr3 m 77 (F_ :: pr3 m 0 [])) 0 [0, 1, 2, 3, 5, 212, 216, 323, 327, 329] [216, 329] (V103 c a r s)) = allP (((V103 c a r s).fr = (V103 c a r s).fr) :: ((V103 c a r s).bl = (V103 c a r s).bl) :: (fp3 s m 0 (fn s :: fp3 s m 77 [flt 5 r T_]))) := by kernel_rfl
theorem g3_3_r6 (c a r m : Int) (s : ByteArray) : holdsR (segR cx3 (sB (sB (sR (sL (sR (sR (sR (sR (sR (sR fun3.sc)))))))))) 1 (V103 c a r s) (T_ :: pr3 m 96 (F_ :: pr3 m 0 [])) 0 [0, 1, 2, 3, 4, 238, 242, 371, 375, 377] [242, 377] (V104 c a r s)) = allP (((V104 c a r s).fr = (V104 c a r s).fr) :: ((V104 c a r s).bl = (V104 c a r s).bl) :: (fp3 s m 0 (fn s :: fp3 s m 96 [flt 6 r T_]))) := by kernel_rfl
theorem g3_3_r7 (c a r m : Int) (s : ByteArray) : holdsR (segR cx3 (sB (sB (sR (sL (sR (sR (sR (sR (sR (sR fun3.sc)))))))))) 1 (V104 c a r s) (T_ :: pr3 m 115 (F_ :: pr3 m 0 [])) 0 [0, 1, 2, 3, 4, 264, 268, 419, 423, 425] [268, 425] (V105 c a r s)) = allP (((V105 c a r s).fr = (V105 c a r s).fr) :: ((V105 c a r s).bl = (V105 c a r s).bl) :: (fp3 s m 0 (fn s :: fp3 s m 115 [flt 7 r T_]))) := by kernel_rfl
end Go.M
