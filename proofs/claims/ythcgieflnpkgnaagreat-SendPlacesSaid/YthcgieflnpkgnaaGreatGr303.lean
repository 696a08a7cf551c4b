/-
  Rounds 11 to 11 of the loop of SendPlaces, run by the machine (1 live shards).
  The numbers are those of bytes.
-/
import Derived.Test.YthcgieflnpkgnaaGreatAw12
import Derived.Test.YthcgieflnpkgnaaGreatSt3
import Derived.KernelRfl
set_option linter.unusedVariables false
set_option maxRecDepth 100000
namespace Go.M
open Go Go.Proofs
theorem g3_0_r10 (c a r m : Int) (s : ByteArray) : holdsR (segR cx3 (sB (sB (sR (sL (sR (sR (sR (sR (sR (sR fun3.sc)))))))))) 1 (V17 c a r s) (T_ :: pr3 m 202 (F_ :: pr3 m 0 [])) 0 [0, 1, 2, 3, 4, 382, 386, 647, 651, 653] [386, 653] (V18 c a r s)) = allP (((V18 c a r s).fr = (V18 c a r s).fr) :: ((V18 c a r s).bl = (V18 c a r s).bl) :: (fp3 s m 0 (fn s :: fp3 s m 202 [flt 10 r T_]))) := by kernel_rfl
end Go.M
