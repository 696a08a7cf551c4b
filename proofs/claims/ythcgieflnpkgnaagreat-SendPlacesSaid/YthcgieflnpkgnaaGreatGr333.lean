/-
  Rounds 11 to 11 of the loop of SendPlaces, run by the machine (4 live shards).
  The numbers are those of bytes.
-/
import Derived.Test.YthcgieflnpkgnaaGreatAw12
import Derived.Test.YthcgieflnpkgnaaGreatSt3
import Derived.KernelRfl
set_option linter.unusedVariables false
set_option maxRecDepth 100000
namespace Go.M
open Go Go.Proofs
theorem g3_3_r10 (c a r m : Int) (s : ByteArray) : holdsR (segR cx3 (sB (sB (sR (sL (sR (sR (sR (sR (sR (sR fun3.sc)))))))))) 1 (V107 c a r s) (T_ :: pr3 m 172 (F_ :: pr3 m 0 [])) 0 [0, 1, 2, 3, 4, 342, 346, 563, 567, 569] [346, 569] (V108 c a r s)) = allP (((V108 c a r s).fr = (V108 c a r s).fr) :: ((V108 c a r s).bl = (V108 c a r s).bl) :: (fp3 s m 0 (fn s :: fp3 s m 172 [flt 10 r T_]))) := by kernel_rfl
end Go.M
