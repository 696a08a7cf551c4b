/-
  SendEnds: the runs where before%5 is 4.
  No condition.
-/
import Derived.Test.YtgcpfnjpkljkmaaGreatEa
set_option linter.all false
set_option maxRecDepth 100000
namespace Go.Eng
open Go Go.Proofs
theorem good4 (before n n9 : Int) : (((((((GoodE before n n9 4 0 ∧ GoodE before n n9 4 1) ∧ GoodE before n n9 4 2) ∧ GoodE before n n9 4 3) ∧ GoodE before n n9 4 4) ∧ GoodE before n n9 4 5) ∧ GoodE before n n9 4 6) ∧ GoodE before n n9 4 7) ∧ GoodE before n n9 4 8 := by
  refine ⟨⟨⟨⟨⟨⟨⟨⟨?_, ?_⟩, ?_⟩, ?_⟩, ?_⟩, ?_⟩, ?_⟩, ?_⟩, ?_⟩ <;> (unfold GoodE; kernel_rfl)
end Go.Eng
