/-
  Rounds 6 to 8 of the loop of SendPlaces, run by the machine (3 live shards).
  The numbers are those of bytes.
-/
import Derived.Test.YthcgieflnpkgnaaGreatAw12
import Derived.Test.YthcgieflnpkgnaaGreatSt3
import Derived.KernelRfl
set_option linter.unusedVariables false
set_option maxRecDepth 100000
namespace Go.M
open Go Go.Proofs
theorem g3_2_r5 (c a r m : Int) (s : ByteArray) : holdsR (segR cx3 (sB (sB (sR (sL (sR (sR (sR (sR (sR (sR fun3.sc)))))))))) 1 (V72 c a r s) (T_ :: pr3 m 77 (F_ :: pr3 m 0 [])) 0 [0, 1, 2, 3, 5, 208, 212, 319, 323, 325] [212, 325] (V73 c a r s)) = allP (((V73 c a r s).fr = (V73 c a r s).fr) :: ((V73 c a r s).bl = (V73 c a r s).bl) :: (fp3 s m 0 (fn s :: fp3 s m 77 [flt 5 r T_]))) := by kernel_rfl
theorem g3_2_r6 (c a r m : Int) (s : ByteArray) : holdsR (segR cx3 (sB (sB (sR (sL (sR (sR (sR (sR (sR (sR fun3.sc)))))))))) 1 (V73 c a r s) (T_ :: pr3 m 96 (F_ :: pr3 m 0 [])) 0 [0, 1, 2, 3, 4, 234, 238, 367, 371, 373] [238, 373] (V74 c a r s)) = allP (((V74 c a r s).fr = (V74 c a r s).fr) :: ((V74 c a r s).bl = (V74 c a r s).bl) :: (fp3 s m 0 (fn s :: fp3 s m 96 [flt 6 r T_]))) := by kernel_rfl
theorem g3_2_r7 (c a r m : Int) (s : ByteArray) : holdsR (segR cx3 (sB (sB (sR (sL (sR (sR (sR (sR (sR (sR fun3.sc)))))))))) 1 (V74 c a r s) (T_ :: pr3 m 115 (F_ :: pr3 m 0 [])) 0 [0, 1, 2, 3, 4, 260, 264, 415, 419, 421] [264, 421] (V75 c a r s)) = allP (((V75 c a r s).fr = (V75 c a r s).fr) :: ((V75 c a r s).bl = (V75 c a r s).bl) :: (fp3 s m 0 (fn s :: fp3 s m 115 [flt 7 r T_]))) := by kernel_rfl
end Go.M
