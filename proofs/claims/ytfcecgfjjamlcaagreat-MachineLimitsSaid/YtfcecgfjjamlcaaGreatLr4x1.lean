/-
  MachineLimits: runs.
  No condition.
-/
import Derived.Test.YtfcecgfjjamlcaaGreatLa4
set_option linter.all false
set_option maxRecDepth 100000
namespace Go.Eng
open Go Go.Proofs
theorem goods1 (n : Int) : GoodE n  1 ∧ GoodE n  5 ∧ GoodE n  9 ∧ GoodE n  13 ∧ GoodE n  17 := by
  refine ⟨?_, ?_, ?_, ?_, ?_⟩ <;> (unfold GoodE; kernel_rfl)
theorem good1 (n : Int) : GoodE n  1 := (goods1 n).1
theorem good5 (n : Int) : GoodE n  5 := (goods1 n).2.1
theorem good9 (n : Int) : GoodE n  9 := (goods1 n).2.2.1
theorem good13 (n : Int) : GoodE n  13 := (goods1 n).2.2.2.1
theorem good17 (n : Int) : GoodE n  17 := (goods1 n).2.2.2.2
end Go.Eng
