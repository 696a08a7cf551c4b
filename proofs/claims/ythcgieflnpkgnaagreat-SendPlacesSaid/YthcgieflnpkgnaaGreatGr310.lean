/-
  Rounds 1 to 5 of the loop of SendPlaces, run by the machine (2 live shards).
  The numbers are those of bytes.
-/
import Derived.Test.YthcgieflnpkgnaaGreatAw12
import Derived.Test.YthcgieflnpkgnaaGreatSt3
import Derived.KernelRfl
set_option linter.unusedVariables false
set_option maxRecDepth 100000
namespace Go.M
open Go Go.Proofs
theorem g3_1_r0 (c a r m : Int) (s : ByteArray) : holdsR (segR cx3 (sB (sB (sR (sL (sR (sR (sR (sR (sR (sR fun3.sc)))))))))) 1 (V37 c a r s) (T_ :: pr3 m 12 (F_ :: pr3 m 0 [])) 0 [0, 1, 2, 4, 5, 124, 128, 169, 173, 175] [128, 175] (V38 c a r s)) = allP (((V38 c a r s).fr = (V38 c a r s).fr) :: ((V38 c a r s).bl = (V38 c a r s).bl) :: (fp3 s m 0 (fn s :: fp3 s m 12 [flt 0 r T_]))) := by kernel_rfl
theorem g3_1_r1 (c a r m : Int) (s : ByteArray) : holdsR (segR cx3 (sB (sB (sR (sL (sR (sR (sR (sR (sR (sR fun3.sc)))))))))) 1 (V38 c a r s) (T_ :: pr3 m 31 (F_ :: pr3 m 0 [])) 0 [0, 1, 2, 3, 4, 152, 156, 219, 223, 225] [156, 225] (V39 c a r s)) = allP (((V39 c a r s).fr = (V39 c a r s).fr) :: ((V39 c a r s).bl = (V39 c a r s).bl) :: (fp3 s m 0 (fn s :: fp3 s m 31 [flt 1 r T_]))) := by kernel_rfl
theorem g3_1_r2 (c a r m : Int) (s : ByteArray) : holdsR (segR cx3 (sB (sB (sR (sL (sR (sR (sR (sR (sR (sR fun3.sc)))))))))) 1 (V39 c a r s) (T_ :: pr3 m 50 (F_ :: pr3 m 0 [])) 0 [0, 1, 2, 3, 4, 178, 182, 267, 271, 273] [182, 273] (V40 c a r s)) = allP (((V40 c a r s).fr = (V40 c a r s).fr) :: ((V40 c a r s).bl = (V40 c a r s).bl) :: (fp3 s m 0 (fn s :: fp3 s m 50 [flt 2 r T_]))) := by kernel_rfl
theorem g3_1_r3 (c a r m : Int) (s : ByteArray) : holdsR (segR cx3 (sB (sB (sR (sL (sR (sR (sR (sR (sR (sR fun3.sc)))))))))) 1 (V40 c a r s) (T_ :: pr3 m 12 (F_ :: pr3 m 12 [])) 0 [0, 1, 3, 4, 5, 126, 130, 171, 175, 177] [130, 177] (V41 c a r s)) = allP (((V41 c a r s).fr = (V41 c a r s).fr) :: ((V41 c a r s).bl = (V41 c a r s).bl) :: (fp3 s m 12 (fn s :: fp3 s m 12 [flt 3 r T_]))) := by kernel_rfl
theorem g3_1_r4 (c a r m : Int) (s : ByteArray) : holdsR (segR cx3 (sB (sB (sR (sL (sR (sR (sR (sR (sR (sR fun3.sc)))))))))) 1 (V41 c a r s) (T_ :: pr3 m 31 (F_ :: pr3 m 12 [])) 0 [0, 1, 2, 3, 4, 152, 156, 219, 223, 225] [156, 225] (V42 c a r s)) = allP (((V42 c a r s).fr = (V42 c a r s).fr) :: ((V42 c a r s).bl = (V42 c a r s).bl) :: (fp3 s m 12 (fn s :: fp3 s m 31 [flt 4 r T_]))) := by kernel_rfl
end Go.M
