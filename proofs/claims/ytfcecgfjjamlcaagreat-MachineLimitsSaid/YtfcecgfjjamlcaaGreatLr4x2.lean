/-
  MachineLimits: runs.
  No condition.
-/
import Derived.Test.YtfcecgfjjamlcaaGreatLa4
set_option linter.all false
set_option maxRecDepth 100000
namespace Go.Eng
open Go Go.Proofs
theorem goods2 (n : Int) : GoodE n  2 ∧ GoodE n  6 ∧ GoodE n  10 ∧ GoodE n  14 ∧ GoodE n  18 := by
  refine ⟨?_, ?_, ?_, ?_, ?_⟩ <;> (unfold GoodE; kernel_rfl)
theorem good2 (n : Int) : GoodE n  2 := (goods2 n).1
theorem good6 (n : Int) : GoodE n  6 := (goods2 n).2.1
theorem good10 (n : Int) : GoodE n  10 := (goods2 n).2.2.1
theorem good14 (n : Int) : GoodE n  14 := (goods2 n).2.2.2.1
theorem good18 (n : Int) : GoodE n  18 := (goods2 n).2.2.2.2
end Go.Eng
