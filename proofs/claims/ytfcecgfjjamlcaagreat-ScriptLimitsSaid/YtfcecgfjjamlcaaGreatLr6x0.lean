/-
  ScriptLimits: runs.
  No condition.
-/
import Derived.Test.YtfcecgfjjamlcaaGreatLa6
set_option linter.all false
set_option maxRecDepth 100000
namespace Go.Eng
open Go Go.Proofs
theorem goods0 (n : Int) : GoodE n true 0 ∧ GoodE n true 2 := by
  refine ⟨?_, ?_⟩ <;> (unfold GoodE; kernel_rfl)
theorem good0true (n : Int) : GoodE n true 0 := (goods0 n).1
theorem good2true (n : Int) : GoodE n true 2 := (goods0 n).2
end Go.Eng
