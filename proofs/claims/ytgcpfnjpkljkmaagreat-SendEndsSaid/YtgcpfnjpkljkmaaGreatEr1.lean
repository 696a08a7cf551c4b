/-
  SendEnds: the runs where before%5 is 1.
  No condition.
-/
import Derived.Test.YtgcpfnjpkljkmaaGreatEa
set_option linter.all false
set_option maxRecDepth 100000
namespace Go.Eng
open Go Go.Proofs
theorem good1 (before n n9 : Int) : (((((((GoodE before n n9 1 0 ∧ GoodE before n n9 1 1) ∧ GoodE before n n9 1 2) ∧ GoodE before n n9 1 3) ∧ GoodE before n n9 1 4) ∧ GoodE before n n9 1 5) ∧ GoodE before n n9 1 6) ∧ GoodE before n n9 1 7) ∧ GoodE before n n9 1 8 := by
  refine ⟨⟨⟨⟨⟨⟨⟨⟨?_, ?_⟩, ?_⟩, ?_⟩, ?_⟩, ?_⟩, ?_⟩, ?_⟩, ?_⟩ <;> (unfold GoodE; kernel_rfl)
end Go.Eng
