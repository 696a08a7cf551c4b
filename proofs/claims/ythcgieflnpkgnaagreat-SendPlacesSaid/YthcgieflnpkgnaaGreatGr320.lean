/-
  Rounds 1 to 5 of the loop of SendPlaces, run by the machine (3 live shards).
  The numbers are those of bytes.
-/
import Derived.Test.YthcgieflnpkgnaaGreatAw12
import Derived.Test.YthcgieflnpkgnaaGreatSt3
import Derived.KernelRfl
set_option linter.unusedVariables false
set_option maxRecDepth 100000
namespace Go.M
open Go Go.Proofs
theorem g3_2_r0 (c a r m : Int) (s : ByteArray) : holdsR (segR cx3 (sB (sB (sR (sL (sR (sR (sR (sR (sR (sR fun3.sc)))))))))) 1 (V67 c a r s) (T_ :: pr3 m 12 (F_ :: pr3 m 0 [])) 0 [0, 1, 2, 3, 5, 128, 132, 173, 177, 179] [132, 179] (V68 c a r s)) = allP (((V68 c a r s).fr = (V68 c a r s).fr) :: ((V68 c a r s).bl = (V68 c a r s).bl) :: (fp3 s m 0 (fn s :: fp3 s m 12 [flt 0 r T_]))) := by kernel_rfl
theorem g3_2_r1 (c a r m : Int) (s : ByteArray) : holdsR (segR cx3 (sB (sB (sR (sL (sR (sR (sR (sR (sR (sR fun3.sc)))))))))) 1 (V68 c a r s) (T_ :: pr3 m 31 (F_ :: pr3 m 0 [])) 0 [0, 1, 2, 3, 4, 156, 160, 223, 227, 229] [160, 229] (V69 c a r s)) = allP (((V69 c a r s).fr = (V69 c a r s).fr) :: ((V69 c a r s).bl = (V69 c a r s).bl) :: (fp3 s m 0 (fn s :: fp3 s m 31 [flt 1 r T_]))) := by kernel_rfl
theorem g3_2_r2 (c a r m : Int) (s : ByteArray) : holdsR (segR cx3 (sB (sB (sR (sL (sR (sR (sR (sR (sR (sR fun3.sc)))))))))) 1 (V69 c a r s) (T_ :: pr3 m 50 (F_ :: pr3 m 0 [])) 0 [0, 1, 2, 3, 4, 182, 186, 271, 275, 277] [186, 277] (V70 c a r s)) = allP (((V70 c a r s).fr = (V70 c a r s).fr) :: ((V70 c a r s).bl = (V70 c a r s).bl) :: (fp3 s m 0 (fn s :: fp3 s m 50 [flt 2 r T_]))) := by kernel_rfl
theorem g3_2_r3 (c a r m : Int) (s : ByteArray) : holdsR (segR cx3 (sB (sB (sR (sL (sR (sR (sR (sR (sR (sR fun3.sc)))))))))) 1 (V70 c a r s) (T_ :: pr3 m 12 (F_ :: pr3 m 12 [])) 0 [0, 1, 3, 4, 5, 130, 134, 175, 179, 181] [134, 181] (V71 c a r s)) = allP (((V71 c a r s).fr = (V71 c a r s).fr) :: ((V71 c a r s).bl = (V71 c a r s).bl) :: (fp3 s m 12 (fn s :: fp3 s m 12 [flt 3 r T_]))) := by kernel_rfl
theorem g3_2_r4 (c a r m : Int) (s : ByteArray) : holdsR (segR cx3 (sB (sB (sR (sL (sR (sR (sR (sR (sR (sR fun3.sc)))))))))) 1 (V71 c a r s) (T_ :: pr3 m 31 (F_ :: pr3 m 12 [])) 0 [0, 1, 2, 3, 4, 156, 160, 223, 227, 229] [160, 229] (V72 c a r s)) = allP (((V72 c a r s).fr = (V72 c a r s).fr) :: ((V72 c a r s).bl = (V72 c a r s).bl) :: (fp3 s m 12 (fn s :: fp3 s m 31 [flt 4 r T_]))) := by kernel_rfl
end Go.M
