/-
  SendEnds: the runs where before%5 is 2.
  No condition.
-/
import Derived.Test.YtgcpfnjpkljkmaaGreatEa
set_option linter.all false
set_option maxRecDepth 100000
namespace Go.Eng
open Go Go.Proofs
theorem good2 (before n n9 : Int) : (((((((GoodE before n n9 2 0 ∧ GoodE before n n9 2 1) ∧ GoodE before n n9 2 2) ∧ GoodE before n n9 2 3) ∧ GoodE before n n9 2 4) ∧ GoodE before n n9 2 5) ∧ GoodE before n n9 2 6) ∧ GoodE before n n9 2 7) ∧ GoodE before n n9 2 8 := by
  refine ⟨⟨⟨⟨⟨⟨⟨⟨?_, ?_⟩, ?_⟩, ?_⟩, ?_⟩, ?_⟩, ?_⟩, ?_⟩, ?_⟩ <;> (unfold GoodE; kernel_rfl)
end Go.Eng
