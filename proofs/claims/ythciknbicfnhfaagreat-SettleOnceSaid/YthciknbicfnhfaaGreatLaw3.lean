/-
  SettleOnce gives back true at every input.
  The numbers are those of bytes.
-/
import Derived.Test.YthciknbicfnhfaaGreatSo0
import Derived.Test.YthciknbicfnhfaaGreatSo1
import Derived.Test.YthciknbicfnhfaaGreatSo2
import Derived.Test.YthciknbicfnhfaaGreatSo3
set_option linter.unusedVariables false
namespace Go.M
open Go Go.Proofs
theorem u3 : dvX ⟨1540, [], oZ⟩ = some (.int .u8 ((3 : Nat) : Int)) := by kernel_rfl
theorem v0 : dvX ⟨4, [], oZ⟩ = some (.int .u8 ((0 : Nat) : Int)) := by kernel_rfl
theorem v1 : dvX ⟨516, [], oZ⟩ = some (.int .u8 ((1 : Nat) : Int)) := by kernel_rfl
theorem v2 : dvX ⟨1028, [], oZ⟩ = some (.int .u8 ((2 : Nat) : Int)) := by kernel_rfl
theorem fn3 (a b : Int) (h0 : 0 ≤ a) (hb0 : 0 ≤ b) (hb : b < 256) (w : World) : Calls Tryz.prog 3 #[.int .u8 a, .int .u8 b] w fun e w' => e = .returned (.bool true) ∧ Go.RowKit.Below w.heap.size w w' := by
  have ha : den Vz ⟨13, [], .int .u8 a⟩ (.int .u8 a) := (den12 (x := ⟨13, [], .int .u8 a⟩) (.inr rfl)).2 ⟨rfl, rfl⟩
  have hbs : den Vz ⟨13, [], .int .u8 b⟩ (.int .u8 b) := (den12 (x := ⟨13, [], .int .u8 b⟩) (.inr rfl)).2 ⟨rfl, rfl⟩
  have hv : denL Vz [⟨13, [], .int .u8 a⟩, ⟨13, [], .int .u8 b⟩] #[Value.int .u8 a, .int .u8 b].toList := denL_cons.2 ⟨_, _, rfl, ha, denL_cons.2 ⟨_, [], rfl, hbs, denL_nil.2 rfl⟩⟩
  have hf := law_ok cl20_ok ok3
  generalize hc : exF cl20 fun3 = c at hf
  have h3 : a % 3 = 0 ∨ a % 3 = 1 ∨ a % 3 = 2 := by omega
  rcases h3 with h | h | h
  · have hr := run3_0 a b
    rw [hc] at hr
    exact top hf (Eq.mpr hr (so3_0 hb0 hb (f_rem 3 1540 u3 (by decide) h0 (by exact h) v0))) hv w
  · have hr := run3_1 a b
    rw [hc] at hr
    exact top hf (Eq.mpr hr (so3_1 hb0 hb (f_rem 3 1540 u3 (by decide) h0 (by exact h) v1))) hv w
  · rcases Int.lt_or_le 0 b with h1 | h1
    · have hr := run3_2 a b
      rw [hc] at hr
      exact top hf (Eq.mpr hr (so3_2 h1 hb (f_rem 3 1540 u3 (by decide) h0 (by exact h) v2))) hv w
    · have hz : b = 0 := by omega
      subst hz
      have hv0 : denL Vz [⟨13, [], .int .u8 a⟩, ⟨4, [], oZ⟩] #[Value.int .u8 a, .int .u8 0].toList := denL_cons.2 ⟨_, _, rfl, ha, denL_cons.2 ⟨_, [], rfl, den_dvX v0 rfl, denL_nil.2 rfl⟩⟩
      have hr := run3_3 a
      rw [hc] at hr
      exact top hf (Eq.mpr hr ⟨f_rem 3 1540 u3 (by decide) h0 (by exact h) v2, trivial⟩) hv0 w
end Go.M
