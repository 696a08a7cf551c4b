/-
  SettleBatch from its first loop on, run by the machine (the kind's rest 0).
  The numbers are those of bytes.
-/
import Derived.Test.YthcgieflnpkgnaaGreatAw17
import Derived.Test.YthcgieflnpkgnaaGreatSt4
import Derived.KernelRfl
set_option linter.unusedVariables false
set_option maxRecDepth 100000
namespace Go.M
open Go Go.Proofs
theorem l4_0_56 (b c : Int) : holdsR (segE cx4 fun4.res (sR (sR (sR (sR (sR fun4.sc))))) (U5 b c) (an4 b 0 [false, false, false, true, true, true] ++ an4 b 0 [false, false, false, true, true, true])) = allP (fs4 b 0 [false, false, false, true, true, true] (fs4 b 0 [false, false, false, true, true, true] [])) := by kernel_rfl
theorem l4_0_57 (b c : Int) : holdsR (segE cx4 fun4.res (sR (sR (sR (sR (sR fun4.sc))))) (U5 b c) (an4 b 0 [true, false, false, true, true, true] ++ an4 b 0 [true, false, false, true, true, true])) = allP (fs4 b 0 [true, false, false, true, true, true] (fs4 b 0 [true, false, false, true, true, true] [])) := by kernel_rfl
theorem l4_0_58 (b c : Int) : holdsR (segE cx4 fun4.res (sR (sR (sR (sR (sR fun4.sc))))) (U5 b c) (an4 b 0 [false, true, false, true, true, true] ++ an4 b 0 [false, true, false, true, true, true])) = allP (fs4 b 0 [false, true, false, true, true, true] (fs4 b 0 [false, true, false, true, true, true] [])) := by kernel_rfl
theorem l4_0_59 (b c : Int) : holdsR (segE cx4 fun4.res (sR (sR (sR (sR (sR fun4.sc))))) (U5 b c) (an4 b 0 [true, true, false, true, true, true] ++ an4 b 0 [true, true, false, true, true, true])) = allP (fs4 b 0 [true, true, false, true, true, true] (fs4 b 0 [true, true, false, true, true, true] [])) := by kernel_rfl
theorem l4_0_60 (b c : Int) : holdsR (segE cx4 fun4.res (sR (sR (sR (sR (sR fun4.sc))))) (U5 b c) (an4 b 0 [false, false, true, true, true, true] ++ an4 b 0 [false, false, true, true, true, true])) = allP (fs4 b 0 [false, false, true, true, true, true] (fs4 b 0 [false, false, true, true, true, true] [])) := by kernel_rfl
theorem l4_0_61 (b c : Int) : holdsR (segE cx4 fun4.res (sR (sR (sR (sR (sR fun4.sc))))) (U5 b c) (an4 b 0 [true, false, true, true, true, true] ++ an4 b 0 [true, false, true, true, true, true])) = allP (fs4 b 0 [true, false, true, true, true, true] (fs4 b 0 [true, false, true, true, true, true] [])) := by kernel_rfl
theorem l4_0_62 (b c : Int) : holdsR (segE cx4 fun4.res (sR (sR (sR (sR (sR fun4.sc))))) (U5 b c) (an4 b 0 [false, true, true, true, true, true] ++ an4 b 0 [false, true, true, true, true, true])) = allP (fs4 b 0 [false, true, true, true, true, true] (fs4 b 0 [false, true, true, true, true, true] [])) := by kernel_rfl
theorem l4_0_63 (b c : Int) : holdsR (segE cx4 fun4.res (sR (sR (sR (sR (sR fun4.sc))))) (U5 b c) (an4 b 0 [true, true, true, true, true, true] ++ an4 b 0 [true, true, true, true, true, true])) = allP (fs4 b 0 [true, true, true, true, true, true] (fs4 b 0 [true, true, true, true, true, true] [])) := by kernel_rfl
end Go.M
