/-
  SettleBatch from its first loop on, run by the machine (the kind's rest 1).
  The numbers are those of bytes.
-/
import Derived.Test.YthcgieflnpkgnaaGreatAw17
import Derived.Test.YthcgieflnpkgnaaGreatSt4
import Derived.KernelRfl
set_option linter.unusedVariables false
set_option maxRecDepth 100000
namespace Go.M
open Go Go.Proofs
theorem l4_1_48 (b c : Int) : holdsR (segE cx4 fun4.res (sR (sR (sR (sR (sR fun4.sc))))) (U6 b c) (an4 b 0 [false, false, false, false, true, true] ++ an4 b 0 [false, false, false, false, true, true])) = allP (fs4 b 0 [false, false, false, false, true, true] (fs4 b 0 [false, false, false, false, true, true] [])) := by kernel_rfl
theorem l4_1_49 (b c : Int) : holdsR (segE cx4 fun4.res (sR (sR (sR (sR (sR fun4.sc))))) (U6 b c) (an4 b 0 [true, false, false, false, true, true] ++ an4 b 0 [true, false, false, false, true, true])) = allP (fs4 b 0 [true, false, false, false, true, true] (fs4 b 0 [true, false, false, false, true, true] [])) := by kernel_rfl
theorem l4_1_50 (b c : Int) : holdsR (segE cx4 fun4.res (sR (sR (sR (sR (sR fun4.sc))))) (U6 b c) (an4 b 0 [false, true, false, false, true, true] ++ an4 b 0 [false, true, false, false, true, true])) = allP (fs4 b 0 [false, true, false, false, true, true] (fs4 b 0 [false, true, false, false, true, true] [])) := by kernel_rfl
theorem l4_1_51 (b c : Int) : holdsR (segE cx4 fun4.res (sR (sR (sR (sR (sR fun4.sc))))) (U6 b c) (an4 b 0 [true, true, false, false, true, true] ++ an4 b 0 [true, true, false, false, true, true])) = allP (fs4 b 0 [true, true, false, false, true, true] (fs4 b 0 [true, true, false, false, true, true] [])) := by kernel_rfl
theorem l4_1_52 (b c : Int) : holdsR (segE cx4 fun4.res (sR (sR (sR (sR (sR fun4.sc))))) (U6 b c) (an4 b 0 [false, false, true, false, true, true] ++ an4 b 0 [false, false, true, false, true, true])) = allP (fs4 b 0 [false, false, true, false, true, true] (fs4 b 0 [false, false, true, false, true, true] [])) := by kernel_rfl
theorem l4_1_53 (b c : Int) : holdsR (segE cx4 fun4.res (sR (sR (sR (sR (sR fun4.sc))))) (U6 b c) (an4 b 0 [true, false, true, false, true, true] ++ an4 b 0 [true, false, true, false, true, true])) = allP (fs4 b 0 [true, false, true, false, true, true] (fs4 b 0 [true, false, true, false, true, true] [])) := by kernel_rfl
theorem l4_1_54 (b c : Int) : holdsR (segE cx4 fun4.res (sR (sR (sR (sR (sR fun4.sc))))) (U6 b c) (an4 b 0 [false, true, true, false, true, true] ++ an4 b 0 [false, true, true, false, true, true])) = allP (fs4 b 0 [false, true, true, false, true, true] (fs4 b 0 [false, true, true, false, true, true] [])) := by kernel_rfl
theorem l4_1_55 (b c : Int) : holdsR (segE cx4 fun4.res (sR (sR (sR (sR (sR fun4.sc))))) (U6 b c) (an4 b 0 [true, true, true, false, true, true] ++ an4 b 0 [true, true, true, false, true, true])) = allP (fs4 b 0 [true, true, true, false, true, true] (fs4 b 0 [true, true, true, false, true, true] [])) := by kernel_rfl
end Go.M
