/-
  SettleBatch from its first loop on, run by the machine (the kind's rest 1).
  The numbers are those of bytes.
-/
import Derived.Test.YthcgieflnpkgnaaGreatAw17
import Derived.Test.YthcgieflnpkgnaaGreatSt4
import Derived.KernelRfl
set_option linter.unusedVariables false
set_option maxRecDepth 100000
namespace Go.M
open Go Go.Proofs
theorem l4_1_0 (b c : Int) : holdsR (segE cx4 fun4.res (sR (sR (sR (sR (sR fun4.sc))))) (U6 b c) (an4 b 0 [false, false, false, false, false, false] ++ an4 b 0 [false, false, false, false, false, false])) = allP (fs4 b 0 [false, false, false, false, false, false] (fs4 b 0 [false, false, false, false, false, false] [])) := by kernel_rfl
theorem l4_1_1 (b c : Int) : holdsR (segE cx4 fun4.res (sR (sR (sR (sR (sR fun4.sc))))) (U6 b c) (an4 b 0 [true, false, false, false, false, false] ++ an4 b 0 [true, false, false, false, false, false])) = allP (fs4 b 0 [true, false, false, false, false, false] (fs4 b 0 [true, false, false, false, false, false] [])) := by kernel_rfl
theorem l4_1_2 (b c : Int) : holdsR (segE cx4 fun4.res (sR (sR (sR (sR (sR fun4.sc))))) (U6 b c) (an4 b 0 [false, true, false, false, false, false] ++ an4 b 0 [false, true, false, false, false, false])) = allP (fs4 b 0 [false, true, false, false, false, false] (fs4 b 0 [false, true, false, false, false, false] [])) := by kernel_rfl
theorem l4_1_3 (b c : Int) : holdsR (segE cx4 fun4.res (sR (sR (sR (sR (sR fun4.sc))))) (U6 b c) (an4 b 0 [true, true, false, false, false, false] ++ an4 b 0 [true, true, false, false, false, false])) = allP (fs4 b 0 [true, true, false, false, false, false] (fs4 b 0 [true, true, false, false, false, false] [])) := by kernel_rfl
theorem l4_1_4 (b c : Int) : holdsR (segE cx4 fun4.res (sR (sR (sR (sR (sR fun4.sc))))) (U6 b c) (an4 b 0 [false, false, true, false, false, false] ++ an4 b 0 [false, false, true, false, false, false])) = allP (fs4 b 0 [false, false, true, false, false, false] (fs4 b 0 [false, false, true, false, false, false] [])) := by kernel_rfl
theorem l4_1_5 (b c : Int) : holdsR (segE cx4 fun4.res (sR (sR (sR (sR (sR fun4.sc))))) (U6 b c) (an4 b 0 [true, false, true, false, false, false] ++ an4 b 0 [true, false, true, false, false, false])) = allP (fs4 b 0 [true, false, true, false, false, false] (fs4 b 0 [true, false, true, false, false, false] [])) := by kernel_rfl
theorem l4_1_6 (b c : Int) : holdsR (segE cx4 fun4.res (sR (sR (sR (sR (sR fun4.sc))))) (U6 b c) (an4 b 0 [false, true, true, false, false, false] ++ an4 b 0 [false, true, true, false, false, false])) = allP (fs4 b 0 [false, true, true, false, false, false] (fs4 b 0 [false, true, true, false, false, false] [])) := by kernel_rfl
theorem l4_1_7 (b c : Int) : holdsR (segE cx4 fun4.res (sR (sR (sR (sR (sR fun4.sc))))) (U6 b c) (an4 b 0 [true, true, true, false, false, false] ++ an4 b 0 [true, true, true, false, false, false])) = allP (fs4 b 0 [true, true, true, false, false, false] (fs4 b 0 [true, true, true, false, false, false] [])) := by kernel_rfl
end Go.M
