/-
  Rounds 9 to 10 of the loop of SendPlaces, run by the machine (1 live shards).
  The numbers are those of bytes.
-/
import Derived.Test.YthcgieflnpkgnaaGreatAw12
import Derived.Test.YthcgieflnpkgnaaGreatSt3
import Derived.KernelRfl
set_option linter.unusedVariables false
set_option maxRecDepth 100000
namespace Go.M
open Go Go.Proofs
theorem g3_0_r8 (c a r m : Int) (s : ByteArray) : holdsR (segR cx3 (sB (sB (sR (sL (sR (sR (sR (sR (sR (sR fun3.sc)))))))))) 1 (V15 c a r s) (T_ :: pr3 m 164 (F_ :: pr3 m 0 [])) 0 [0, 1, 2, 3, 4, 330, 334, 551, 555, 557] [334, 557] (V16 c a r s)) = allP (((V16 c a r s).fr = (V16 c a r s).fr) :: ((V16 c a r s).bl = (V16 c a r s).bl) :: (fp3 s m 0 (fn s :: fp3 s m 164 [flt 8 r T_]))) := by kernel_rfl
theorem g3_0_r9 (c a r m : Int) (s : ByteArray) : holdsR (segR cx3 (sB (sB (sR (sL (sR (sR (sR (sR (sR (sR fun3.sc)))))))))) 1 (V16 c a r s) (T_ :: pr3 m 183 (F_ :: pr3 m 0 [])) 0 [0, 1, 2, 3, 4, 356, 360, 599, 603, 605] [360, 605] (V17 c a r s)) = allP (((V17 c a r s).fr = (V17 c a r s).fr) :: ((V17 c a r s).bl = (V17 c a r s).bl) :: (fp3 s m 0 (fn s :: fp3 s m 183 [flt 9 r T_]))) := by kernel_rfl
end Go.M
