/-
  SendEnds: the runs where before%5 is 0.
  No condition.
-/
import Derived.Test.YtgcpfnjpkljkmaaGreatEa
set_option linter.all false
set_option maxRecDepth 100000
namespace Go.Eng
open Go Go.Proofs
theorem good0 (before n n9 : Int) : (((((((GoodE before n n9 0 0 ∧ GoodE before n n9 0 1) ∧ GoodE before n n9 0 2) ∧ GoodE before n n9 0 3) ∧ GoodE before n n9 0 4) ∧ GoodE before n n9 0 5) ∧ GoodE before n n9 0 6) ∧ GoodE before n n9 0 7) ∧ GoodE before n n9 0 8 := by
  refine ⟨⟨⟨⟨⟨⟨⟨⟨?_, ?_⟩, ?_⟩, ?_⟩, ?_⟩, ?_⟩, ?_⟩, ?_⟩, ?_⟩ <;> (unfold GoodE; kernel_rfl)
end Go.Eng
