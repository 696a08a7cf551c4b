/-
  SendEnds: the runs where before%5 is 3.
  No condition.
-/
import Derived.Test.YtgcpfnjpkljkmaaGreatEa
set_option linter.all false
set_option maxRecDepth 100000
namespace Go.Eng
open Go Go.Proofs
theorem good3 (before n n9 : Int) : (((((((GoodE before n n9 3 0 ∧ GoodE before n n9 3 1) ∧ GoodE before n n9 3 2) ∧ GoodE before n n9 3 3) ∧ GoodE before n n9 3 4) ∧ GoodE before n n9 3 5) ∧ GoodE before n n9 3 6) ∧ GoodE before n n9 3 7) ∧ GoodE before n n9 3 8 := by
  refine ⟨⟨⟨⟨⟨⟨⟨⟨?_, ?_⟩, ?_⟩, ?_⟩, ?_⟩, ?_⟩, ?_⟩, ?_⟩, ?_⟩ <;> (unfold GoodE; kernel_rfl)
end Go.Eng
