/-
  SettleBatch from its first loop on, run by the machine (the kind's rest 2).
  The numbers are those of bytes.
-/
import Derived.Test.YthcgieflnpkgnaaGreatAw17
import Derived.Test.YthcgieflnpkgnaaGreatSt4
import Derived.KernelRfl
set_option linter.unusedVariables false
set_option maxRecDepth 100000
namespace Go.M
open Go Go.Proofs
theorem l4_2_8 (b c : Int) : holdsR (segE cx4 fun4.res (sR (sR (sR (sR (sR fun4.sc))))) (U7 b c) (an4 b 0 [false, false, false, true, false, false] ++ an4 b 0 [false, false, false, true, false, false])) = allP (fs4 b 0 [false, false, false, true, false, false] (fs4 b 0 [false, false, false, true, false, false] [])) := by kernel_rfl
theorem l4_2_9 (b c : Int) : holdsR (segE cx4 fun4.res (sR (sR (sR (sR (sR fun4.sc))))) (U7 b c) (an4 b 0 [true, false, false, true, false, false] ++ an4 b 0 [true, false, false, true, false, false])) = allP (fs4 b 0 [true, false, false, true, false, false] (fs4 b 0 [true, false, false, true, false, false] [])) := by kernel_rfl
theorem l4_2_10 (b c : Int) : holdsR (segE cx4 fun4.res (sR (sR (sR (sR (sR fun4.sc))))) (U7 b c) (an4 b 0 [false, true, false, true, false, false] ++ an4 b 0 [false, true, false, true, false, false])) = allP (fs4 b 0 [false, true, false, true, false, false] (fs4 b 0 [false, true, false, true, false, false] [])) := by kernel_rfl
theorem l4_2_11 (b c : Int) : holdsR (segE cx4 fun4.res (sR (sR (sR (sR (sR fun4.sc))))) (U7 b c) (an4 b 0 [true, true, false, true, false, false] ++ an4 b 0 [true, true, false, true, false, false])) = allP (fs4 b 0 [true, true, false, true, false, false] (fs4 b 0 [true, true, false, true, false, false] [])) := by kernel_rfl
theorem l4_2_12 (b c : Int) : holdsR (segE cx4 fun4.res (sR (sR (sR (sR (sR fun4.sc))))) (U7 b c) (an4 b 0 [false, false, true, true, false, false] ++ an4 b 0 [false, false, true, true, false, false])) = allP (fs4 b 0 [false, false, true, true, false, false] (fs4 b 0 [false, false, true, true, false, false] [])) := by kernel_rfl
theorem l4_2_13 (b c : Int) : holdsR (segE cx4 fun4.res (sR (sR (sR (sR (sR fun4.sc))))) (U7 b c) (an4 b 0 [true, false, true, true, false, false] ++ an4 b 0 [true, false, true, true, false, false])) = allP (fs4 b 0 [true, false, true, true, false, false] (fs4 b 0 [true, false, true, true, false, false] [])) := by kernel_rfl
theorem l4_2_14 (b c : Int) : holdsR (segE cx4 fun4.res (sR (sR (sR (sR (sR fun4.sc))))) (U7 b c) (an4 b 0 [false, true, true, true, false, false] ++ an4 b 0 [false, true, true, true, false, false])) = allP (fs4 b 0 [false, true, true, true, false, false] (fs4 b 0 [false, true, true, true, false, false] [])) := by kernel_rfl
theorem l4_2_15 (b c : Int) : holdsR (segE cx4 fun4.res (sR (sR (sR (sR (sR fun4.sc))))) (U7 b c) (an4 b 0 [true, true, true, true, false, false] ++ an4 b 0 [true, true, true, true, false, false])) = allP (fs4 b 0 [true, true, true, true, false, false] (fs4 b 0 [true, true, true, true, false, false] [])) := by kernel_rfl
end Go.M
