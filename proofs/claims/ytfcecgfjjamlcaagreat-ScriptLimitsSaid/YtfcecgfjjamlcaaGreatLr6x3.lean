/-
  ScriptLimits: runs.
  No condition.
-/
import Derived.Test.YtfcecgfjjamlcaaGreatLa6
set_option linter.all false
set_option maxRecDepth 100000
namespace Go.Eng
open Go Go.Proofs
theorem goods3 (n : Int) : GoodE n false 1 ∧ GoodE n false 3 := by
  refine ⟨?_, ?_⟩ <;> (unfold GoodE; kernel_rfl)
theorem good1false (n : Int) : GoodE n false 1 := (goods3 n).1
theorem good3false (n : Int) : GoodE n false 3 := (goods3 n).2
end Go.Eng
