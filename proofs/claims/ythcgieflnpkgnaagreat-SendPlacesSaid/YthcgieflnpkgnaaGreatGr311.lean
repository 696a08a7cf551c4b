/-
  Rounds 6 to 8 of the loop of SendPlaces, run by the machine (2 live shards).
  The numbers are those of bytes.
-/
import Derived.Test.YthcgieflnpkgnaaGreatAw12
import Derived.Test.YthcgieflnpkgnaaGreatSt3
import Derived.KernelRfl
set_option linter.unusedVariables false
set_option maxRecDepth 100000
namespace Go.M
open Go Go.Proofs
theorem g3_1_r5 (c a r m : Int) (s : ByteArray) : holdsR (segR cx3 (sB (sB (sR (sL (sR (sR (sR (sR (sR (sR fun3.sc)))))))))) 1 (V42 c a r s) (T_ :: pr3 m 77 (F_ :: pr3 m 0 [])) 0 [0, 1, 2, 3, 5, 204, 208, 315, 319, 321] [208, 321] (V43 c a r s)) = allP (((V43 c a r s).fr = (V43 c a r s).fr) :: ((V43 c a r s).bl = (V43 c a r s).bl) :: (fp3 s m 0 (fn s :: fp3 s m 77 [flt 5 r T_]))) := by kernel_rfl
theorem g3_1_r6 (c a r m : Int) (s : ByteArray) : holdsR (segR cx3 (sB (sB (sR (sL (sR (sR (sR (sR (sR (sR fun3.sc)))))))))) 1 (V43 c a r s) (T_ :: pr3 m 96 (F_ :: pr3 m 0 [])) 0 [0, 1, 2, 3, 4, 230, 234, 363, 367, 369] [234, 369] (V44 c a r s)) = allP (((V44 c a r s).fr = (V44 c a r s).fr) :: ((V44 c a r s).bl = (V44 c a r s).bl) :: (fp3 s m 0 (fn s :: fp3 s m 96 [flt 6 r T_]))) := by kernel_rfl
theorem g3_1_r7 (c a r m : Int) (s : ByteArray) : holdsR (segR cx3 (sB (sB (sR (sL (sR (sR (sR (sR (sR (sR fun3.sc)))))))))) 1 (V44 c a r s) (T_ :: pr3 m 115 (F_ :: pr3 m 0 [])) 0 [0, 1, 2, 3, 4, 256, 260, 411, 415, 417] [260, 417] (V45 c a r s)) = allP (((V45 c a r s).fr = (V45 c a r s).fr) :: ((V45 c a r s).bl = (V45 c a r s).bl) :: (fp3 s m 0 (fn s :: fp3 s m 115 [flt 7 r T_]))) := by kernel_rfl
end Go.M
