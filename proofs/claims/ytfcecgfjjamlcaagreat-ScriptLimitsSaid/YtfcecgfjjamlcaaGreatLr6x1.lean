/-
  ScriptLimits: runs.
  No condition.
-/
import Derived.Test.YtfcecgfjjamlcaaGreatLa6
set_option linter.all false
set_option maxRecDepth 100000
namespace Go.Eng
open Go Go.Proofs
theorem goods1 (n : Int) : GoodE n false 0 ∧ GoodE n false 2 := by
  refine ⟨?_, ?_⟩ <;> (unfold GoodE; kernel_rfl)
theorem good0false (n : Int) : GoodE n false 0 := (goods1 n).1
theorem good2false (n : Int) : GoodE n false 2 := (goods1 n).2
end Go.Eng
