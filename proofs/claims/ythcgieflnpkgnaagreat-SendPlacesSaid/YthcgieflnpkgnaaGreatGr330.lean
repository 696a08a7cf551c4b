/-
  Rounds 1 to 5 of the loop of SendPlaces, run by the machine (4 live shards).
  The numbers are those of bytes.
-/
import Derived.Test.YthcgieflnpkgnaaGreatAw12
import Derived.Test.YthcgieflnpkgnaaGreatSt3
import Derived.KernelRfl
set_option linter.unusedVariables false
set_option maxRecDepth 100000
namespace Go.M
open Go Go.Proofs
theorem g3_3_r0 (c a r m : Int) (s : ByteArray) : holdsR (segR cx3 (sB (sB (sR (sL (sR (sR (sR (sR (sR (sR fun3.sc)))))))))) 1 (V97 c a r s) (T_ :: pr3 m 12 (F_ :: pr3 m 0 [])) 0 [0, 1, 2, 3, 5, 132, 136, 177, 181, 183] [136, 183] (V98 c a r s)) = allP (((V98 c a r s).fr = (V98 c a r s).fr) :: ((V98 c a r s).bl = (V98 c a r s).bl) :: (fp3 s m 0 (fn s :: fp3 s m 12 [flt 0 r T_]))) := by kernel_rfl
theorem g3_3_r1 (c a r m : Int) (s : ByteArray) : holdsR (segR cx3 (sB (sB (sR (sL (sR (sR (sR (sR (sR (sR fun3.sc)))))))))) 1 (V98 c a r s) (T_ :: pr3 m 31 (F_ :: pr3 m 0 [])) 0 [0, 1, 2, 3, 4, 160, 164, 227, 231, 233] [164, 233] (V99 c a r s)) = allP (((V99 c a r s).fr = (V99 c a r s).fr) :: ((V99 c a r s).bl = (V99 c a r s).bl) :: (fp3 s m 0 (fn s :: fp3 s m 31 [flt 1 r T_]))) := by kernel_rfl
theorem g3_3_r2 (c a r m : Int) (s : ByteArray) : holdsR (segR cx3 (sB (sB (sR (sL (sR (sR (sR (sR (sR (sR fun3.sc)))))))))) 1 (V99 c a r s) (T_ :: pr3 m 50 (F_ :: pr3 m 0 [])) 0 [0, 1, 2, 3, 4, 186, 190, 275, 279, 281] [190, 281] (V100 c a r s)) = allP (((V100 c a r s).fr = (V100 c a r s).fr) :: ((V100 c a r s).bl = (V100 c a r s).bl) :: (fp3 s m 0 (fn s :: fp3 s m 50 [flt 2 r T_]))) := by kernel_rfl
theorem g3_3_r3 (c a r m : Int) (s : ByteArray) : holdsR (segR cx3 (sB (sB (sR (sL (sR (sR (sR (sR (sR (sR fun3.sc)))))))))) 1 (V100 c a r s) (T_ :: pr3 m 12 (F_ :: pr3 m 12 [])) 0 [0, 1, 2, 4, 5, 134, 138, 179, 183, 185] [138, 185] (V101 c a r s)) = allP (((V101 c a r s).fr = (V101 c a r s).fr) :: ((V101 c a r s).bl = (V101 c a r s).bl) :: (fp3 s m 12 (fn s :: fp3 s m 12 [flt 3 r T_]))) := by kernel_rfl
theorem g3_3_r4 (c a r m : Int) (s : ByteArray) : holdsR (segR cx3 (sB (sB (sR (sL (sR (sR (sR (sR (sR (sR fun3.sc)))))))))) 1 (V101 c a r s) (T_ :: pr3 m 31 (F_ :: pr3 m 12 [])) 0 [0, 1, 2, 3, 4, 160, 164, 227, 231, 233] [164, 233] (V102 c a r s)) = allP (((V102 c a r s).fr = (V102 c a r s).fr) :: ((V102 c a r s).bl = (V102 c a r s).bl) :: (fp3 s m 12 (fn s :: fp3 s m 31 [flt 4 r T_]))) := by kernel_rfl
end Go.M
