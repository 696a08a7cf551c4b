/-
  SettleBatch from its first loop on, run by the machine (the kind's rest 1).
  The numbers are those of bytes.
-/
import Derived.Test.YthcgieflnpkgnaaGreatAw17
import Derived.Test.YthcgieflnpkgnaaGreatSt4
import Derived.KernelRfl
set_option linter.unusedVariables false
set_option maxRecDepth 100000
namespace Go.M
open Go Go.Proofs
theorem l4_1_16 (b c : Int) : holdsR (segE cx4 fun4.res (sR (sR (sR (sR (sR fun4.sc))))) (U6 b c) (an4 b 0 [false, false, false, false, true, false] ++ an4 b 0 [false, false, false, false, true, false])) = allP (fs4 b 0 [false, false, false, false, true, false] (fs4 b 0 [false, false, false, false, true, false] [])) := by kernel_rfl
theorem l4_1_17 (b c : Int) : holdsR (segE cx4 fun4.res (sR (sR (sR (sR (sR fun4.sc))))) (U6 b c) (an4 b 0 [true, false, false, false, true, false] ++ an4 b 0 [true, false, false, false, true, false])) = allP (fs4 b 0 [true, false, false, false, true, false] (fs4 b 0 [true, false, false, false, true, false] [])) := by kernel_rfl
theorem l4_1_18 (b c : Int) : holdsR (segE cx4 fun4.res (sR (sR (sR (sR (sR fun4.sc))))) (U6 b c) (an4 b 0 [false, true, false, false, true, false] ++ an4 b 0 [false, true, false, false, true, false])) = allP (fs4 b 0 [false, true, false, false, true, false] (fs4 b 0 [false, true, false, false, true, false] [])) := by kernel_rfl
theorem l4_1_19 (b c : Int) : holdsR (segE cx4 fun4.res (sR (sR (sR (sR (sR fun4.sc))))) (U6 b c) (an4 b 0 [true, true, false, false, true, false] ++ an4 b 0 [true, true, false, false, true, false])) = allP (fs4 b 0 [true, true, false, false, true, false] (fs4 b 0 [true, true, false, false, true, false] [])) := by kernel_rfl
theorem l4_1_20 (b c : Int) : holdsR (segE cx4 fun4.res (sR (sR (sR (sR (sR fun4.sc))))) (U6 b c) (an4 b 0 [false, false, true, false, true, false] ++ an4 b 0 [false, false, true, false, true, false])) = allP (fs4 b 0 [false, false, true, false, true, false] (fs4 b 0 [false, false, true, false, true, false] [])) := by kernel_rfl
theorem l4_1_21 (b c : Int) : holdsR (segE cx4 fun4.res (sR (sR (sR (sR (sR fun4.sc))))) (U6 b c) (an4 b 0 [true, false, true, false, true, false] ++ an4 b 0 [true, false, true, false, true, false])) = allP (fs4 b 0 [true, false, true, false, true, false] (fs4 b 0 [true, false, true, false, true, false] [])) := by kernel_rfl
theorem l4_1_22 (b c : Int) : holdsR (segE cx4 fun4.res (sR (sR (sR (sR (sR fun4.sc))))) (U6 b c) (an4 b 0 [false, true, true, false, true, false] ++ an4 b 0 [false, true, true, false, true, false])) = allP (fs4 b 0 [false, true, true, false, true, false] (fs4 b 0 [false, true, true, false, true, false] [])) := by kernel_rfl
theorem l4_1_23 (b c : Int) : holdsR (segE cx4 fun4.res (sR (sR (sR (sR (sR fun4.sc))))) (U6 b c) (an4 b 0 [true, true, true, false, true, false] ++ an4 b 0 [true, true, true, false, true, false])) = allP (fs4 b 0 [true, true, true, false, true, false] (fs4 b 0 [true, true, true, false, true, false] [])) := by kernel_rfl
end Go.M
