/-
  MachineLimits: runs.
  No condition.
-/
import Derived.Test.YtfcecgfjjamlcaaGreatLa4
set_option linter.all false
set_option maxRecDepth 100000
namespace Go.Eng
open Go Go.Proofs
theorem goods0 (n : Int) : GoodE n  0 ∧ GoodE n  4 ∧ GoodE n  8 ∧ GoodE n  12 ∧ GoodE n  16 := by
  refine ⟨?_, ?_, ?_, ?_, ?_⟩ <;> (unfold GoodE; kernel_rfl)
theorem good0 (n : Int) : GoodE n  0 := (goods0 n).1
theorem good4 (n : Int) : GoodE n  4 := (goods0 n).2.1
theorem good8 (n : Int) : GoodE n  8 := (goods0 n).2.2.1
theorem good12 (n : Int) : GoodE n  12 := (goods0 n).2.2.2.1
theorem good16 (n : Int) : GoodE n  16 := (goods0 n).2.2.2.2
end Go.Eng
