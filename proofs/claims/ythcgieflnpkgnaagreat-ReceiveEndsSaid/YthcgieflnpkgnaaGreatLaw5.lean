/-
  ReceiveEnds gives back true at every input.
  The numbers are those of bytes.
-/
import Derived.Test.YthcgieflnpkgnaaGreatRng
import Derived.Test.YthcgieflnpkgnaaGreatRnl
set_option linter.unusedVariables false
namespace Go.M
open Go Go.Proofs
theorem fn5 (b c : Int) (hb0 : 0 ≤ b) (hb : b < 256) (hc0 : 0 ≤ c) (hc : c < 256) (w : World) : Calls Tryz.prog 5 #[.int .u8 b, .int .u8 c] w fun e w' => e = .returned (.bool true) ∧ Go.RowKit.Below w.heap.size w w' := by
  have hbs : den Vz ⟨13, [], .int .u8 b⟩ (.int .u8 b) := (den12 (x := ⟨13, [], .int .u8 b⟩) (.inr rfl)).2 ⟨rfl, rfl⟩
  have hcs : den Vz ⟨13, [], .int .u8 c⟩ (.int .u8 c) := (den12 (x := ⟨13, [], .int .u8 c⟩) (.inr rfl)).2 ⟨rfl, rfl⟩
  have hf := law_ok cl21_ok ok5
  have hv : denL Vz [⟨13, [], .int .u8 b⟩, ⟨13, [], .int .u8 c⟩] #[Value.int .u8 b, .int .u8 c].toList := denL_cons.2 ⟨_, _, rfl, hbs, denL_cons.2 ⟨_, [], rfl, hcs, denL_nil.2 rfl⟩⟩
  generalize he : exF cl21 fun5 = e at hf
  rcases Int.lt_or_le c b with h | h
  · have hr := run5_g b c
    rw [he] at hr
    exact top hf (Eq.mpr hr (rn5_g hb0 hb hc0 hc h)) hv w trivial
  · have hr := run5_l b c
    rw [he] at hr
    exact top hf (Eq.mpr hr (rn5_l hb0 hb hc0 hc h)) hv w trivial
end Go.M
