/-
  Rounds 6 to 8 of the loop of SendPlaces, run by the machine (1 live shards).
  The numbers are those of bytes.
-/
import Derived.Test.YthcgieflnpkgnaaGreatAw12
import Derived.Test.YthcgieflnpkgnaaGreatSt3
import Derived.KernelRfl
set_option linter.unusedVariables false
set_option maxRecDepth 100000
namespace Go.M
open Go Go.Proofs
theorem g3_0_r5 (c a r m : Int) (s : ByteArray) : holdsR (segR cx3 (sB (sB (sR (sL (sR (sR (sR (sR (sR (sR fun3.sc)))))))))) 1 (V12 c a r s) (T_ :: pr3 m 107 (F_ :: pr3 m 0 [])) 0 [0, 1, 2, 3, 4, 252, 256, 407, 411, 413] [256, 413] (V13 c a r s)) = allP (((V13 c a r s).fr = (V13 c a r s).fr) :: ((V13 c a r s).bl = (V13 c a r s).bl) :: (fp3 s m 0 (fn s :: fp3 s m 107 [flt 5 r T_]))) := by kernel_rfl
theorem g3_0_r6 (c a r m : Int) (s : ByteArray) : holdsR (segR cx3 (sB (sB (sR (sL (sR (sR (sR (sR (sR (sR fun3.sc)))))))))) 1 (V13 c a r s) (T_ :: pr3 m 126 (F_ :: pr3 m 0 [])) 0 [0, 1, 2, 3, 4, 278, 282, 455, 459, 461] [282, 461] (V14 c a r s)) = allP (((V14 c a r s).fr = (V14 c a r s).fr) :: ((V14 c a r s).bl = (V14 c a r s).bl) :: (fp3 s m 0 (fn s :: fp3 s m 126 [flt 6 r T_]))) := by kernel_rfl
theorem g3_0_r7 (c a r m : Int) (s : ByteArray) : holdsR (segR cx3 (sB (sB (sR (sL (sR (sR (sR (sR (sR (sR fun3.sc)))))))))) 1 (V14 c a r s) (T_ :: pr3 m 145 (F_ :: pr3 m 0 [])) 0 [0, 1, 2, 3, 4, 304, 308, 503, 507, 509] [308, 509] (V15 c a r s)) = allP (((V15 c a r s).fr = (V15 c a r s).fr) :: ((V15 c a r s).bl = (V15 c a r s).bl) :: (fp3 s m 0 (fn s :: fp3 s m 145 [flt 7 r T_]))) := by kernel_rfl
end Go.M
