/-
  SettleBatch from its first loop on, run by the machine (the kind's rest 2).
  The numbers are those of bytes.
-/
import Derived.Test.YthcgieflnpkgnaaGreatAw17
import Derived.Test.YthcgieflnpkgnaaGreatSt4
import Derived.KernelRfl
set_option linter.unusedVariables false
set_option maxRecDepth 100000
namespace Go.M
open Go Go.Proofs
theorem l4_2_32 (b c : Int) : holdsR (segE cx4 fun4.res (sR (sR (sR (sR (sR fun4.sc))))) (U7 b c) (an4 b 0 [false, false, false, false, false, true] ++ an4 b 0 [false, false, false, false, false, true])) = allP (fs4 b 0 [false, false, false, false, false, true] (fs4 b 0 [false, false, false, false, false, true] [])) := by kernel_rfl
theorem l4_2_33 (b c : Int) : holdsR (segE cx4 fun4.res (sR (sR (sR (sR (sR fun4.sc))))) (U7 b c) (an4 b 0 [true, false, false, false, false, true] ++ an4 b 0 [true, false, false, false, false, true])) = allP (fs4 b 0 [true, false, false, false, false, true] (fs4 b 0 [true, false, false, false, false, true] [])) := by kernel_rfl
theorem l4_2_34 (b c : Int) : holdsR (segE cx4 fun4.res (sR (sR (sR (sR (sR fun4.sc))))) (U7 b c) (an4 b 0 [false, true, false, false, false, true] ++ an4 b 0 [false, true, false, false, false, true])) = allP (fs4 b 0 [false, true, false, false, false, true] (fs4 b 0 [false, true, false, false, false, true] [])) := by kernel_rfl
theorem l4_2_35 (b c : Int) : holdsR (segE cx4 fun4.res (sR (sR (sR (sR (sR fun4.sc))))) (U7 b c) (an4 b 0 [true, true, false, false, false, true] ++ an4 b 0 [true, true, false, false, false, true])) = allP (fs4 b 0 [true, true, false, false, false, true] (fs4 b 0 [true, true, false, false, false, true] [])) := by kernel_rfl
theorem l4_2_36 (b c : Int) : holdsR (segE cx4 fun4.res (sR (sR (sR (sR (sR fun4.sc))))) (U7 b c) (an4 b 0 [false, false, true, false, false, true] ++ an4 b 0 [false, false, true, false, false, true])) = allP (fs4 b 0 [false, false, true, false, false, true] (fs4 b 0 [false, false, true, false, false, true] [])) := by kernel_rfl
theorem l4_2_37 (b c : Int) : holdsR (segE cx4 fun4.res (sR (sR (sR (sR (sR fun4.sc))))) (U7 b c) (an4 b 0 [true, false, true, false, false, true] ++ an4 b 0 [true, false, true, false, false, true])) = allP (fs4 b 0 [true, false, true, false, false, true] (fs4 b 0 [true, false, true, false, false, true] [])) := by kernel_rfl
theorem l4_2_38 (b c : Int) : holdsR (segE cx4 fun4.res (sR (sR (sR (sR (sR fun4.sc))))) (U7 b c) (an4 b 0 [false, true, true, false, false, true] ++ an4 b 0 [false, true, true, false, false, true])) = allP (fs4 b 0 [false, true, true, false, false, true] (fs4 b 0 [false, true, true, false, false, true] [])) := by kernel_rfl
theorem l4_2_39 (b c : Int) : holdsR (segE cx4 fun4.res (sR (sR (sR (sR (sR fun4.sc))))) (U7 b c) (an4 b 0 [true, true, true, false, false, true] ++ an4 b 0 [true, true, true, false, false, true])) = allP (fs4 b 0 [true, true, true, false, false, true] (fs4 b 0 [true, true, true, false, false, true] [])) := by kernel_rfl
end Go.M
