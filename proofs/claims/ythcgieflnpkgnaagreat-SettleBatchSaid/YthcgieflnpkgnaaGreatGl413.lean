/-
  SettleBatch from its first loop on, run by the machine (the kind's rest 1).
  The numbers are those of bytes.
-/
import Derived.Test.YthcgieflnpkgnaaGreatAw17
import Derived.Test.YthcgieflnpkgnaaGreatSt4
import Derived.KernelRfl
set_option linter.unusedVariables false
set_option maxRecDepth 100000
namespace Go.M
open Go Go.Proofs
theorem l4_1_24 (b c : Int) : holdsR (segE cx4 fun4.res (sR (sR (sR (sR (sR fun4.sc))))) (U6 b c) (an4 b 0 [false, false, false, true, true, false] ++ an4 b 0 [false, false, false, true, true, false])) = allP (fs4 b 0 [false, false, false, true, true, false] (fs4 b 0 [false, false, false, true, true, false] [])) := by kernel_rfl
theorem l4_1_25 (b c : Int) : holdsR (segE cx4 fun4.res (sR (sR (sR (sR (sR fun4.sc))))) (U6 b c) (an4 b 0 [true, false, false, true, true, false] ++ an4 b 0 [true, false, false, true, true, false])) = allP (fs4 b 0 [true, false, false, true, true, false] (fs4 b 0 [true, false, false, true, true, false] [])) := by kernel_rfl
theorem l4_1_26 (b c : Int) : holdsR (segE cx4 fun4.res (sR (sR (sR (sR (sR fun4.sc))))) (U6 b c) (an4 b 0 [false, true, false, true, true, false] ++ an4 b 0 [false, true, false, true, true, false])) = allP (fs4 b 0 [false, true, false, true, true, false] (fs4 b 0 [false, true, false, true, true, false] [])) := by kernel_rfl
theorem l4_1_27 (b c : Int) : holdsR (segE cx4 fun4.res (sR (sR (sR (sR (sR fun4.sc))))) (U6 b c) (an4 b 0 [true, true, false, true, true, false] ++ an4 b 0 [true, true, false, true, true, false])) = allP (fs4 b 0 [true, true, false, true, true, false] (fs4 b 0 [true, true, false, true, true, false] [])) := by kernel_rfl
theorem l4_1_28 (b c : Int) : holdsR (segE cx4 fun4.res (sR (sR (sR (sR (sR fun4.sc))))) (U6 b c) (an4 b 0 [false, false, true, true, true, false] ++ an4 b 0 [false, false, true, true, true, false])) = allP (fs4 b 0 [false, false, true, true, true, false] (fs4 b 0 [false, false, true, true, true, false] [])) := by kernel_rfl
theorem l4_1_29 (b c : Int) : holdsR (segE cx4 fun4.res (sR (sR (sR (sR (sR fun4.sc))))) (U6 b c) (an4 b 0 [true, false, true, true, true, false] ++ an4 b 0 [true, false, true, true, true, false])) = allP (fs4 b 0 [true, false, true, true, true, false] (fs4 b 0 [true, false, true, true, true, false] [])) := by kernel_rfl
theorem l4_1_30 (b c : Int) : holdsR (segE cx4 fun4.res (sR (sR (sR (sR (sR fun4.sc))))) (U6 b c) (an4 b 0 [false, true, true, true, true, false] ++ an4 b 0 [false, true, true, true, true, false])) = allP (fs4 b 0 [false, true, true, true, true, false] (fs4 b 0 [false, true, true, true, true, false] [])) := by kernel_rfl
theorem l4_1_31 (b c : Int) : holdsR (segE cx4 fun4.res (sR (sR (sR (sR (sR fun4.sc))))) (U6 b c) (an4 b 0 [true, true, true, true, true, false] ++ an4 b 0 [true, true, true, true, true, false])) = allP (fs4 b 0 [true, true, true, true, true, false] (fs4 b 0 [true, true, true, true, true, false] [])) := by kernel_rfl
end Go.M
