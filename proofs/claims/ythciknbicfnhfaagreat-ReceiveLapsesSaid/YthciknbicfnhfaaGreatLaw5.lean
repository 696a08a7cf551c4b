/-
  ReceiveLapses gives back true at every input.
  The numbers are those of bytes.
-/
import Derived.Test.YthciknbicfnhfaaGreatRe0l
import Derived.Test.YthciknbicfnhfaaGreatRe0g
import Derived.Test.YthciknbicfnhfaaGreatRe1l
import Derived.Test.YthciknbicfnhfaaGreatRe1g
set_option linter.unusedVariables false
namespace Go.M
open Go Go.Proofs
theorem fn5 (b c : Int) (t : Bool) (hb0 : 0 ≤ b) (hb : b < 256) (hc0 : 0 ≤ c) (hc : c < 256) (w : World) : Calls Tryz.prog 5 #[.int .u8 b, .int .u8 c, .bool t] w fun e w' => e = .returned (.bool true) ∧ Go.RowKit.Below w.heap.size w w' := by
  have hbs : den Vz ⟨13, [], .int .u8 b⟩ (.int .u8 b) := (den12 (x := ⟨13, [], .int .u8 b⟩) (.inr rfl)).2 ⟨rfl, rfl⟩
  have hcs : den Vz ⟨13, [], .int .u8 c⟩ (.int .u8 c) := (den12 (x := ⟨13, [], .int .u8 c⟩) (.inr rfl)).2 ⟨rfl, rfl⟩
  have hf := law_ok cl19_ok ok5
  generalize he : exF cl19 fun5 = e at hf
  cases t with
  | true =>
    have hv : denL Vz [⟨13, [], .int .u8 b⟩, ⟨13, [], .int .u8 c⟩, ⟨33, [], oZ⟩] #[Value.int .u8 b, .int .u8 c, .bool true].toList := denL_cons.2 ⟨_, _, rfl, hbs, denL_cons.2 ⟨_, _, rfl, hcs, denL_cons.2 ⟨_, [], rfl, den_xT, denL_nil.2 rfl⟩⟩⟩
    rcases Int.lt_or_le c b with h | h
    · have hr := run5_1l b c
      rw [he] at hr
      exact top hf (Eq.mpr hr (re5_1l hb0 hb hc0 hc h)) hv w
    · have hr := run5_1g b c
      rw [he] at hr
      exact top hf (Eq.mpr hr (re5_1g hb0 hb hc0 hc h)) hv w
  | false =>
    have hv : denL Vz [⟨13, [], .int .u8 b⟩, ⟨13, [], .int .u8 c⟩, ⟨1, [], oZ⟩] #[Value.int .u8 b, .int .u8 c, .bool false].toList := denL_cons.2 ⟨_, _, rfl, hbs, denL_cons.2 ⟨_, _, rfl, hcs, denL_cons.2 ⟨_, [], rfl, den_xF, denL_nil.2 rfl⟩⟩⟩
    rcases Int.lt_or_le c b with h | h
    · have hr := run5_0l b c
      rw [he] at hr
      exact top hf (Eq.mpr hr (re5_0l hb0 hb hc0 hc h)) hv w
    · have hr := run5_0g b c
      rw [he] at hr
      exact top hf (Eq.mpr hr (re5_0g hb0 hb hc0 hc h)) hv w
end Go.M
