/-
  ScriptLimits: runs.
  No condition.
-/
import Derived.Test.YtfcecgfjjamlcaaGreatLa6
set_option linter.all false
set_option maxRecDepth 100000
namespace Go.Eng
open Go Go.Proofs
theorem goods2 (n : Int) : GoodE n true 1 ∧ GoodE n true 3 := by
  refine ⟨?_, ?_⟩ <;> (unfold GoodE; kernel_rfl)
theorem good1true (n : Int) : GoodE n true 1 := (goods2 n).1
theorem good3true (n : Int) : GoodE n true 3 := (goods2 n).2
end Go.Eng
