/-
  MachineLimits: runs.
  No condition.
-/
import Derived.Test.YtfcecgfjjamlcaaGreatLa4
set_option linter.all false
set_option maxRecDepth 100000
namespace Go.Eng
open Go Go.Proofs
theorem goods3 (n : Int) : GoodE n  3 ∧ GoodE n  7 ∧ GoodE n  11 ∧ GoodE n  15 ∧ GoodE n  19 := by
  refine ⟨?_, ?_, ?_, ?_, ?_⟩ <;> (unfold GoodE; kernel_rfl)
theorem good3 (n : Int) : GoodE n  3 := (goods3 n).1
theorem good7 (n : Int) : GoodE n  7 := (goods3 n).2.1
theorem good11 (n : Int) : GoodE n  11 := (goods3 n).2.2.1
theorem good15 (n : Int) : GoodE n  15 := (goods3 n).2.2.2.1
theorem good19 (n : Int) : GoodE n  19 := (goods3 n).2.2.2.2
end Go.Eng
