/-
  Rounds 1 to 5 of the loop of SendPlaces, run by the machine (1 live shards).
  The numbers are those of bytes.
-/
import Derived.Test.YthcgieflnpkgnaaGreatAw12
import Derived.Test.YthcgieflnpkgnaaGreatSt3
import Derived.KernelRfl
set_option linter.unusedVariables false
set_option maxRecDepth 100000
namespace Go.M
open Go Go.Proofs
theorem g3_0_r0 (c a r m : Int) (s : ByteArray) : holdsR (segR cx3 (sB (sB (sR (sL (sR (sR (sR (sR (sR (sR fun3.sc)))))))))) 1 (V7 c a r s) (T_ :: pr3 m 12 (F_ :: pr3 m 0 [])) 0 [0, 1, 3, 4, 5, 120, 124, 165, 169, 171] [124, 171] (V8 c a r s)) = allP (((V8 c a r s).fr = (V8 c a r s).fr) :: ((V8 c a r s).bl = (V8 c a r s).bl) :: (fp3 s m 0 (fn s :: fp3 s m 12 [flt 0 r T_]))) := by kernel_rfl
theorem g3_0_r1 (c a r m : Int) (s : ByteArray) : holdsR (segR cx3 (sB (sB (sR (sL (sR (sR (sR (sR (sR (sR fun3.sc)))))))))) 1 (V8 c a r s) (T_ :: pr3 m 31 (F_ :: pr3 m 0 [])) 0 [0, 1, 2, 3, 4, 148, 152, 215, 219, 221] [152, 221] (V9 c a r s)) = allP (((V9 c a r s).fr = (V9 c a r s).fr) :: ((V9 c a r s).bl = (V9 c a r s).bl) :: (fp3 s m 0 (fn s :: fp3 s m 31 [flt 1 r T_]))) := by kernel_rfl
theorem g3_0_r2 (c a r m : Int) (s : ByteArray) : holdsR (segR cx3 (sB (sB (sR (sL (sR (sR (sR (sR (sR (sR fun3.sc)))))))))) 1 (V9 c a r s) (T_ :: pr3 m 50 (F_ :: pr3 m 0 [])) 0 [0, 1, 2, 3, 4, 174, 178, 263, 267, 269] [178, 269] (V10 c a r s)) = allP (((V10 c a r s).fr = (V10 c a r s).fr) :: ((V10 c a r s).bl = (V10 c a r s).bl) :: (fp3 s m 0 (fn s :: fp3 s m 50 [flt 2 r T_]))) := by kernel_rfl
theorem g3_0_r3 (c a r m : Int) (s : ByteArray) : holdsR (segR cx3 (sB (sB (sR (sL (sR (sR (sR (sR (sR (sR fun3.sc)))))))))) 1 (V10 c a r s) (T_ :: pr3 m 69 (F_ :: pr3 m 0 [])) 0 [0, 1, 2, 3, 4, 200, 204, 311, 315, 317] [204, 317] (V11 c a r s)) = allP (((V11 c a r s).fr = (V11 c a r s).fr) :: ((V11 c a r s).bl = (V11 c a r s).bl) :: (fp3 s m 0 (fn s :: fp3 s m 69 [flt 3 r T_]))) := by kernel_rfl
theorem g3_0_r4 (c a r m : Int) (s : ByteArray) : holdsR (segR cx3 (sB (sB (sR (sL (sR (sR (sR (sR (sR (sR fun3.sc)))))))))) 1 (V11 c a r s) (T_ :: pr3 m 88 (F_ :: pr3 m 0 [])) 0 [0, 1, 2, 3, 4, 226, 230, 359, 363, 365] [230, 365] (V12 c a r s)) = allP (((V12 c a r s).fr = (V12 c a r s).fr) :: ((V12 c a r s).bl = (V12 c a r s).bl) :: (fp3 s m 0 (fn s :: fp3 s m 88 [flt 4 r T_]))) := by kernel_rfl
end Go.M
