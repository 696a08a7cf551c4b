/-
  SettleBatch from its first loop on, run by the machine (the kind's rest 2).
  The numbers are those of bytes.
-/
import Derived.Test.YthcgieflnpkgnaaGreatAw17
import Derived.Test.YthcgieflnpkgnaaGreatSt4
import Derived.KernelRfl
set_option linter.unusedVariables false
set_option maxRecDepth 100000
namespace Go.M
open Go Go.Proofs
theorem l4_2_40 (b c : Int) : holdsR (segE cx4 fun4.res (sR (sR (sR (sR (sR fun4.sc))))) (U7 b c) (an4 b 0 [false, false, false, true, false, true] ++ an4 b 0 [false, false, false, true, false, true])) = allP (fs4 b 0 [false, false, false, true, false, true] (fs4 b 0 [false, false, false, true, false, true] [])) := by kernel_rfl
theorem l4_2_41 (b c : Int) : holdsR (segE cx4 fun4.res (sR (sR (sR (sR (sR fun4.sc))))) (U7 b c) (an4 b 0 [true, false, false, true, false, true] ++ an4 b 0 [true, false, false, true, false, true])) = allP (fs4 b 0 [true, false, false, true, false, true] (fs4 b 0 [true, false, false, true, false, true] [])) := by kernel_rfl
theorem l4_2_42 (b c : Int) : holdsR (segE cx4 fun4.res (sR (sR (sR (sR (sR fun4.sc))))) (U7 b c) (an4 b 0 [false, true, false, true, false, true] ++ an4 b 0 [false, true, false, true, false, true])) = allP (fs4 b 0 [false, true, false, true, false, true] (fs4 b 0 [false, true, false, true, false, true] [])) := by kernel_rfl
theorem l4_2_43 (b c : Int) : holdsR (segE cx4 fun4.res (sR (sR (sR (sR (sR fun4.sc))))) (U7 b c) (an4 b 0 [true, true, false, true, false, true] ++ an4 b 0 [true, true, false, true, false, true])) = allP (fs4 b 0 [true, true, false, true, false, true] (fs4 b 0 [true, true, false, true, false, true] [])) := by kernel_rfl
theorem l4_2_44 (b c : Int) : holdsR (segE cx4 fun4.res (sR (sR (sR (sR (sR fun4.sc))))) (U7 b c) (an4 b 0 [false, false, true, true, false, true] ++ an4 b 0 [false, false, true, true, false, true])) = allP (fs4 b 0 [false, false, true, true, false, true] (fs4 b 0 [false, false, true, true, false, true] [])) := by kernel_rfl
theorem l4_2_45 (b c : Int) : holdsR (segE cx4 fun4.res (sR (sR (sR (sR (sR fun4.sc))))) (U7 b c) (an4 b 0 [true, false, true, true, false, true] ++ an4 b 0 [true, false, true, true, false, true])) = allP (fs4 b 0 [true, false, true, true, false, true] (fs4 b 0 [true, false, true, true, false, true] [])) := by kernel_rfl
theorem l4_2_46 (b c : Int) : holdsR (segE cx4 fun4.res (sR (sR (sR (sR (sR fun4.sc))))) (U7 b c) (an4 b 0 [false, true, true, true, false, true] ++ an4 b 0 [false, true, true, true, false, true])) = allP (fs4 b 0 [false, true, true, true, false, true] (fs4 b 0 [false, true, true, true, false, true] [])) := by kernel_rfl
theorem l4_2_47 (b c : Int) : holdsR (segE cx4 fun4.res (sR (sR (sR (sR (sR fun4.sc))))) (U7 b c) (an4 b 0 [true, true, true, true, false, true] ++ an4 b 0 [true, true, true, true, false, true])) = allP (fs4 b 0 [true, true, true, true, false, true] (fs4 b 0 [true, true, true, true, false, true] [])) := by kernel_rfl
end Go.M
